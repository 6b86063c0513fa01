import Derived.Test.YtbicmjeldappjaaZSh
set_option linter.unusedVariables false
set_option linter.unusedSimpArgs false
namespace Go.Sh
open Go.L

theorem i64_of {n : Int} (h1 : -9223372036854775808 ≤ n) (h2 : n ≤ 9223372036854775807) : i64 n = n := by
 show IntKind.i64.wrap n = n
 rw [IntKind.wrap_i64]; omega
theorem idx_nat {α : Type} (l : List α) (i : Nat) : idx l (i : Int) = l[i]? := by
 unfold idx; simp
theorem idx_lt {α : Type} {l : List α} {i : Nat} (h : i < l.length) : idx l (i : Int) = some l[i] := by
 rw [idx_nat]; simp [h]
theorem idx_at {α : Type} (p : List α) (x : α) (s : List α) : idx (p ++ x :: s) (p.length : Int) = some x := by
 rw [idx_nat]; simp
theorem app_of {α : Type} {xs ys : List α} (h : xs.length + ys.length ≤ 1099511627776) : app xs ys = some (xs ++ ys) := by unfold app; rw [if_pos h]
theorem slc_take {α : Type} {xs : List α} {n : Nat} (h : n ≤ xs.length) : slc xs 0 n = some (xs.take n) := by
 unfold slc; rw [if_pos ⟨by omega, by omega, by omega⟩]; simp
theorem slc_drop {α : Type} {xs : List α} {n : Nat} (h : n ≤ xs.length) : slc xs n (xs.length : Int) = some (xs.drop n) := by
 unfold slc; rw [if_pos ⟨by omega, by omega, by omega⟩]; simp
theorem mkl_of {α : Type} {z : α} {n : Nat} (h : n ≤ 1000000) : mkl z (n : Int) = some (List.replicate n z) := by
 unfold mkl; rw [if_pos ⟨by omega, by omega⟩]; simp
theorem dlt {α : Type} (p : List α) (x : α) (s : List α) : decide ((p.length : Int) < ((p ++ x :: s).length : Int)) = true := by simp; omega
theorem dge {α : Type} (p : List α) : decide ((p.length : Int) < ((p ++ []).length : Int)) = false := by simp
theorem nxt {α : Type} (p : List α) (x : α) (h : p.length < 1000000000) : i64 ((p.length : Int) + 1) = ((p ++ [x]).length : Int) := by
 rw [i64_of (by omega) (by omega)]; simp
theorem snoc {α : Type} (p : List α) (x : α) (s : List α) : p ++ x :: s = (p ++ [x]) ++ s := by simp
theorem loop1 {α R : Type} {L : Nat → α → Option R} {B : (α → Option R) → α → Option R} (hL : ∀ n, L (n + 1) = B (L n)) (I : α → Prop) (μ : α → Nat) (Post : R → Prop)
  (step : ∀ rec a, I a → (∀ a', I a' → μ a' < μ a → ∃ r, rec a' = some r ∧ Post r) → ∃ r, B rec a = some r ∧ Post r) : ∀ n a, I a → μ a < n → ∃ r, L n a = some r ∧ Post r := by
 intro n
 induction n with
 | zero => intro a _ h; omega
 | succ n ih => intro a hI h; rw [hL]; exact step _ a hI fun a' h1 h2 => ih a' h1 (by omega)
theorem loop2 {α β R : Type} {L : Nat → α → β → Option R} {B : (α → β → Option R) → α → β → Option R} (hL : ∀ n, L (n + 1) = B (L n)) (I : α → β → Prop) (μ : α → β → Nat) (Post : R → Prop)
  (step : ∀ rec a b, I a b → (∀ a' b', I a' b' → μ a' b' < μ a b → ∃ r, rec a' b' = some r ∧ Post r) → ∃ r, B rec a b = some r ∧ Post r) : ∀ n a b, I a b → μ a b < n → ∃ r, L n a b = some r ∧ Post r := by
 intro n
 induction n with
 | zero => intro a b _ h; omega
 | succ n ih => intro a b hI h; rw [hL]; exact step _ a b hI fun a' b' h1 h2 => ih a' b' h1 (by omega)
theorem loop3 {α β γ R : Type} {L : Nat → α → β → γ → Option R} {B : (α → β → γ → Option R) → α → β → γ → Option R} (hL : ∀ n, L (n + 1) = B (L n)) (I : α → β → γ → Prop) (μ : α → β → γ → Nat) (Post : R → Prop)
  (step : ∀ rec a b c, I a b c → (∀ a' b' c', I a' b' c' → μ a' b' c' < μ a b c → ∃ r, rec a' b' c' = some r ∧ Post r) → ∃ r, B rec a b c = some r ∧ Post r) : ∀ n a b c, I a b c → μ a b c < n → ∃ r, L n a b c = some r ∧ Post r := by
 intro n
 induction n with
 | zero => intro a b c _ h; omega
 | succ n ih => intro a b c hI h; rw [hL]; exact step _ a b c hI fun a' b' c' h1 h2 => ih a' b' c' h1 (by omega)
theorem loop4 {α β γ δ R : Type} {L : Nat → α → β → γ → δ → Option R} {B : (α → β → γ → δ → Option R) → α → β → γ → δ → Option R} (hL : ∀ n, L (n + 1) = B (L n)) (I : α → β → γ → δ → Prop) (μ : α → β → γ → δ → Nat) (Post : R → Prop)
  (step : ∀ rec a b c d, I a b c d → (∀ a' b' c' d', I a' b' c' d' → μ a' b' c' d' < μ a b c d → ∃ r, rec a' b' c' d' = some r ∧ Post r) → ∃ r, B rec a b c d = some r ∧ Post r) : ∀ n a b c d, I a b c d → μ a b c d < n → ∃ r, L n a b c d = some r ∧ Post r := by
 intro n
 induction n with
 | zero => intro a b c d _ h; omega
 | succ n ih => intro a b c d hI h; rw [hL]; exact step _ a b c d hI fun a' b' c' d' h1 h2 => ih a' b' c' d' h1 (by omega)
theorem loop5 {α β γ δ ε R : Type} {L : Nat → α → β → γ → δ → ε → Option R} {B : (α → β → γ → δ → ε → Option R) → α → β → γ → δ → ε → Option R} (hL : ∀ n, L (n + 1) = B (L n)) (I : α → β → γ → δ → ε → Prop) (μ : α → β → γ → δ → ε → Nat) (Post : R → Prop)
  (step : ∀ rec a b c d e, I a b c d e → (∀ a' b' c' d' e', I a' b' c' d' e' → μ a' b' c' d' e' < μ a b c d e → ∃ r, rec a' b' c' d' e' = some r ∧ Post r) → ∃ r, B rec a b c d e = some r ∧ Post r) : ∀ n a b c d e, I a b c d e → μ a b c d e < n → ∃ r, L n a b c d e = some r ∧ Post r := by
 intro n
 induction n with
 | zero => intro a b c d e _ h; omega
 | succ n ih => intro a b c d e hI h; rw [hL]; exact step _ a b c d e hI fun a' b' c' d' e' h1 h2 => ih a' b' c' d' e' h1 (by omega)
def cmpS (a b : Int) : Int := if a < b then -1 else if b < a then 1 else 0
theorem compare_s (a b : Int) : cmp_Compare_int a b = some (cmpS a b) := by
 simp only [cmp_Compare_int, cmp_isNaN_int, cmpS, Option.bind_some, bne_self_eq_false, Bool.false_eq_true, if_false, decide_eq_true_eq, gt_iff_lt]
 repeat' split
 all_goals first | rfl | omega
def orS : List Int → Int
 | [] => 0
 | x :: r => if x = 0 then orS r else x
theorem or_loop (s : List Int) : ∀ (p : List Int) (n : Nat), (p ++ s).length < 1000000 → s.length < n → cmp_Or_int_L1 (p ++ s) n (p.length : Int) = some (orS s) := by
 induction s with
 | nil => intro p n hb hn; cases n with
  | zero => omega
  | succ n => simp only [cmp_Or_int_L1, cmp_Or_int_L1_B, dge, Bool.false_eq_true, if_false, orS]
 | cons x s ih => intro p n hb hn; cases n with
  | zero => omega
  | succ n =>
   simp only [cmp_Or_int_L1, cmp_Or_int_L1_B, dlt, idx_at, if_true, Option.bind_some, orS, bne_iff_ne, ne_eq]
   by_cases h : x = 0
   ·simp only [h, not_true_eq_false, if_false, if_true]
    have hl : p.length < 1000000000 := by simp at hb; omega
    rw [nxt p 0 hl, snoc]
    exact ih (p ++ [0]) n (by simpa using hb) (by simpa using hn)
   ·simp [h]
theorem or_s {F : Nat} {xs : List Int} (hb : xs.length < 1000000) (hF : xs.length < F) : cmp_Or_int F xs = some (orS xs) := by
 have := or_loop xs [] F (by simpa using hb) hF
 simpa [cmp_Or_int] using this
def cmpId (x y : Gq56) : Int := if cmpS x.Source y.Source ≠ 0 then cmpS x.Source y.Source else cmpS x.Seq y.Seq
def cmpSt (x y : Gq56) : Int := if cmpS x.Time y.Time ≠ 0 then cmpS x.Time y.Time else cmpId x y
theorem stampCompare_s {F : Nat} (hF : 10 ≤ F) (x y : Gq56) : q82q F x y = some (cmpSt x y) := by
 simp only [q82q, compare_s, Option.bind_some]
 rw [or_s (by simp) (by simp; omega)]
 simp only [Option.bind_some, orS, cmpSt, cmpId]
 repeat' split
 all_goals simp_all
def Gq56.good (x : Gq56) : Bool := (decide (x.Time ≥ 0)) && ((decide (x.Time ≤ 1000000)) && ((decide (x.Source ≥ 0)) && ((decide (x.Source ≤ 99)) && ((decide (x.Seq ≥ 0)) && (decide (x.Seq ≤ 9999))))))
theorem valid_s (x : Gq56) : q128q x = some x.good := rfl
theorem refValid_s (x : Gq56) : q127q x = some x.good := rfl
theorem cmpS_lt {a b : Int} : cmpS a b < 0 ↔ a < b := by unfold cmpS; repeat' split
                                                         all_goals omega
theorem cmpS_zero {a b : Int} : cmpS a b = 0 ↔ a = b := by unfold cmpS; repeat' split
                                                           all_goals omega
theorem cmpId_lt {x y : Gq56} : cmpId x y < 0 ↔ x.Source < y.Source ∨ x.Source = y.Source ∧ x.Seq < y.Seq := by
 unfold cmpId; have := @cmpS_zero x.Source y.Source; split
 ·rw [cmpS_lt]; simp_all
 ·rw [cmpS_lt]; simp_all
theorem cmpSt_lt {x y : Gq56} : cmpSt x y < 0 ↔ x.Time < y.Time ∨ x.Time = y.Time ∧ (x.Source < y.Source ∨ x.Source = y.Source ∧ x.Seq < y.Seq) := by
 unfold cmpSt; have := @cmpS_zero x.Time y.Time; split
 ·rw [cmpS_lt]; simp_all
 ·rw [cmpId_lt]; simp_all
theorem sorted_ext {α : Type} {R : α → α → Prop} (hi : ∀ a, ¬ R a a) (ht : ∀ a b c, R a b → R b c → R a c) : ∀ {xs ys : List α}, xs.Pairwise R → ys.Pairwise R → (∀ a, a ∈ xs ↔ a ∈ ys) → xs = ys
 | [], [], _, _, _ => rfl
 | [], y :: ys, _, _, h => by have := (h y).2 (by simp); simp at this
 | x :: xs, [], _, _, h => by have := (h x).1 (by simp); simp at this
 | x :: xs, y :: ys, hx, hy, h => by
  rw [List.pairwise_cons] at hx hy
  have hxy : x = y := by
   rcases List.mem_cons.1 ((h x).1 (by simp)) with h1 | h1
   ·exact h1
   ·rcases List.mem_cons.1 ((h y).2 (by simp)) with h2 | h2
    ·exact h2.symm
    ·exact absurd (ht _ _ _ (hx.1 y h2) (hy.1 x h1)) (hi x)
  subst hxy
  congr 1
  refine sorted_ext hi ht hx.2 hy.2 fun a => ?_
  have := h a
  simp only [List.mem_cons] at this
  constructor
  ·intro ha
   rcases this.1 (.inr ha) with h1 | h1
   ·subst h1; exact absurd (hx.1 a ha) (hi a)
   ·exact h1
  ·intro ha
   rcases this.2 (.inr ha) with h1 | h1
   ·subst h1; exact absurd (hy.1 a ha) (hi a)
   ·exact h1
def insS {α : Type} (lt : α → α → Bool) (x : α) : List α → List α
 | [] => [x]
 | y :: r => if lt x y then x :: y :: r else y :: insS lt x r
theorem mem_insS {α : Type} {lt : α → α → Bool} {x a : α} : ∀ {l : List α}, a ∈ insS lt x l ↔ a = x ∨ a ∈ l
 | [] => by simp [insS]
 | y :: r => by
  simp only [insS]
  split
  ·simp
  ·simp only [List.mem_cons, mem_insS (l := r)]
   constructor
   ·rintro (h | h | h) <;> simp [h]
   ·rintro (h | h | h) <;> simp [h]
theorem perm_insS {α : Type} {lt : α → α → Bool} {x : α} : ∀ {l : List α}, (insS lt x l).Perm (x :: l)
 | [] => .refl _
 | y :: r => by
  simp only [insS]
  split
  ·exact .refl _
  ·exact (perm_insS.cons y).trans (List.Perm.swap x y r)
theorem sorted_insS {α : Type} {lt : α → α → Bool} {x : α} : ∀ {l : List α}, (∀ a ∈ x :: l, ∀ b ∈ x :: l, ∀ c ∈ x :: l, lt a b = true → lt b c = true → lt a c = true) → (∀ y ∈ l, lt x y = true ∨ lt y x = true) → l.Pairwise (fun a b => lt a b = true) → (insS lt x l).Pairwise fun a b => lt a b = true
 | [], _, _, _ => by simp [insS]
 | y :: r, ht, htot, hp => by
  rw [List.pairwise_cons] at hp
  simp only [insS]
  split
  ·rename_i hxy
   rw [List.pairwise_cons]
   refine ⟨fun a ha => ?_, List.pairwise_cons.2 hp⟩
   rcases List.mem_cons.1 ha with rfl | ha'
   ·exact hxy
   ·exact ht x (by simp) y (by simp) a (by simp [ha']) hxy (hp.1 a ha')
  ·rename_i hxy
   have hyx : lt y x = true := (htot y (by simp)).resolve_left hxy
   rw [List.pairwise_cons]
   have hm2 : ∀ a, a ∈ x :: r → a ∈ x :: y :: r := fun a ha => by rcases List.mem_cons.1 ha with h | h <;> simp [h]
   refine ⟨fun a ha => ?_, sorted_insS (fun a ha b hb c hc => ht a (hm2 a ha) b (hm2 b hb) c (hm2 c hc)) (fun z hz => htot z (by simp [hz])) hp.2⟩
   rcases mem_insS.1 ha with rfl | ha
   ·exact hyx
   ·exact hp.1 a ha
def isort {α : Type} (lt : α → α → Bool) : List α → List α
 | [] => []
 | x :: r => insS lt x (isort lt r)
theorem perm_isort {α : Type} {lt : α → α → Bool} : ∀ {l : List α}, (isort lt l).Perm l
 | [] => .refl _
 | x :: r => perm_insS.trans (perm_isort.cons x)
theorem sorted_isort {α : Type} {lt : α → α → Bool} : ∀ {l : List α}, (∀ a ∈ l, ∀ b ∈ l, ∀ c ∈ l, lt a b = true → lt b c = true → lt a c = true) → l.Pairwise (fun a b => lt a b = true ∨ lt b a = true) → (isort lt l).Pairwise fun a b => lt a b = true
 | [], _, _ => by simp [isort]
 | x :: r, ht, hp => by
  rw [List.pairwise_cons] at hp
  simp only [isort]
  have hm : ∀ a, a ∈ x :: isort lt r → a ∈ x :: r := fun a ha => by
   rcases List.mem_cons.1 ha with h | h
   ·simp [h]
   ·simp [perm_isort.mem_iff.1 h]
  exact sorted_insS (fun a ha b hb c hc => ht a (hm a ha) b (hm b hb) c (hm c hc)) (fun y hy => hp.1 y (perm_isort.mem_iff.1 hy)) (sorted_isort (fun a ha b hb c hc => ht a (by simp [ha]) b (by simp [hb]) c (by simp [hc])) hp.2)
theorem equal_loop : ∀ (s s' p : List Int) (q : List Int) (n : Nat), p.length = q.length → s.length = s'.length → (p ++ s).length < 10000000 → s.length < n → q5q (p ++ s) (q ++ s') n (p.length : Int) = some (decide (s = s')) := by
 intro s
 induction s with
 | nil => intro s' p q n hpq hs hb hn; cases n with
  | zero => omega
  | succ n =>
   have : s' = [] := List.eq_nil_of_length_eq_zero (by simpa using hs.symm)
   subst this
   simp only [q5q, q6q, dge, Bool.false_eq_true, if_false, decide_true]
 | cons x s ih => intro s' p q n hpq hs hb hn; cases n with
  | zero => omega
  | succ n =>
   cases s' with
   | nil => simp at hs
   | cons y s' =>
    have hl : p.length < 10000000 := by simp at hb; omega
    have i2 : idx (q ++ y :: s') (p.length : Int) = some y := by rw [hpq]; exact idx_at q y s'
    simp only [q5q, q6q, dlt, if_true, idx_at, i2, Option.bind_some]
    by_cases hxy : x = y
    ·subst hxy
     have := ih s' (p ++ [x]) (q ++ [x]) n (by simp [hpq]) (by simpa using hs) (by simpa using hb) (by simpa using hn)
     simp only [bne_self_eq_false, Bool.false_eq_true, if_false]
     rw [nxt p x (by omega), snoc p, snoc q, this]
     simp
    ·have : (x != y) = true := by simp [hxy]
     simp [this, hxy]
theorem equal_s {F : Nat} {a b : List Int} (hb : a.length < 10000000) (hF : a.length < F) : q18q F a b = some (decide (a = b)) := by
 unfold q18q
 by_cases h : a.length = b.length
 ·have h1 : ((a.length : Int) != (b.length : Int)) = false := by simp [h]
  simp only [h1, Bool.false_eq_true, if_false]
  exact equal_loop a b [] [] F rfl h (by simpa using hb) hF
 ·have h1 : ((a.length : Int) != (b.length : Int)) = true := by simp; omega
  have h2 : a ≠ b := fun hab => h (by rw [hab])
  simp [h1, h2]
theorem mget_mput {α β : Type} [DecidableEq α] (k k' : α) (v : β) : ∀ m : List (α × β), mget (mput m k v) k' = if k' = k then some v else mget m k'
  | [] => by simp only [mput, mget]; by_cases h : k = k'
             · simp [h]
             · simp [h, Ne.symm h]
  | (a, b) :: r => by
    simp only [mput]
    by_cases h : a = k
    · subst h
      simp only [if_true, mget]
      by_cases h2 : a = k'
      · simp [h2]
      · simp [h2, Ne.symm h2]
    · simp only [h, if_false, mget, mget_mput k k' v r]
      by_cases h2 : a = k'
      · subst h2; simp [h]
      · simp [h2]
theorem indexI_loop (f : Int → Bool) (p1 : Int → Option Bool) : ∀ (s p : List Int) (n : Nat), (∀ x ∈ s, p1 x = some (f x)) → (p ++ s).length < 1000000 → s.length < n → ∃ r, q4q (p ++ s) p1 n (p.length : Int) = some r ∧ (r ≥ 0 ↔ s.any f = true) := by
 intro s
 induction s with
 | nil => intro p n hp hb hn; cases n with
  | zero => omega
  | succ n => exact ⟨-1, by simp only [q4q, q7q, dge, Bool.false_eq_true, if_false], by simp⟩
 | cons x s ih => intro p n hp hb hn; cases n with
  | zero => omega
  | succ n =>
   have hl : p.length < 1000000 := by simp at hb; omega
   obtain ⟨r, h1, h2⟩ := ih (p ++ [x]) n (fun y hy => hp y (by simp [hy])) (by simpa using hb) (by simpa using hn)
   simp only [q4q, q7q, dlt, if_true, idx_at, Option.bind_some, hp x (by simp)]
   cases hf : f x with
   | true => exact ⟨(p.length : Int), by simp, by simp [hf] <;> omega⟩
   | false =>
    rw [nxt p x (by omega), snoc, h1]
    exact ⟨r, by simp, by rw [h2]; simp [hf]⟩
theorem containsI_s {F : Nat} {l : List Int} {p1 : Int → Option Bool} (f : Int → Bool) (hp : ∀ x ∈ l, p1 x = some (f x)) (hb : l.length < 1000000) (hF : l.length < F) : q9q F l p1 = some (l.any f) := by
 unfold q9q q36q
 obtain ⟨r, h1, h2⟩ := indexI_loop f p1 l [] F hp (by simpa using hb) hF
 have h1' : q4q l p1 F 0 = some r := h1
 rw [h1']
 simp only [Option.bind_some]
 congr 1
 rw [Bool.eq_iff_iff, decide_eq_true_eq]; exact h2

def okP (p : Int) : Bool := decide (p ≥ 0) && decide (p ≤ 1152921504606846976)
def okE (e : Gq49) : Bool :=
  e.Stamp.good && (decide (0 ≤ e.Script) && (decide (e.Script ≤ 319999) && (decide (e.Pages.length ≤ 12) && (e.Pages.all okP &&
    (if e.Kind = 0 then decide (1 ≤ e.Stamp.Source) && (decide (0 ≤ e.Part) && (decide (e.Part ≤ 23) && (decide (-1 ≤ e.Value) && (decide (e.Value ≤ 40) && decide (e.Marker = 0)))))
     else if e.Kind = 1 then decide (e.Stamp.Source = 0) && (decide (e.Script = 0) && (decide (e.Part = 0) && (decide (e.Value = 0) && (decide (1 ≤ e.Marker) && (decide (e.Marker ≤ 99) && decide (e.Pages.length = 0))))))
     else if e.Kind = 2 then decide (e.Stamp.Source = 0) && (decide (e.Value = 0) && (decide (e.Marker = 0) && (decide (-1 ≤ e.Part) && (decide (e.Part ≤ 23) && decide (e.Pages.length = 0)))))
     else false)))))
theorem any_okP (l : List Int) : (l.any fun p => decide (p < 0) || decide (p > 1152921504606846976)) = !l.all okP := by
 induction l with
 | nil => rfl
 | cons x s ih =>
  rw [List.any_cons, List.all_cons, ih, Bool.not_and]
  congr 1
  unfold okP
  rw [Bool.eq_iff_iff]; simp
theorem validMark_s {F : Nat} (hF : 20 < F) (e : Gq49) : q64q F e = some (decide (e.Pages.length ≤ 12) && (e.Pages.all okP && (decide (1 ≤ e.Stamp.Source) && (decide (0 ≤ e.Part) && (decide (e.Part ≤ 23) && (decide (-1 ≤ e.Value) && (decide (e.Value ≤ 40) && decide (e.Marker = 0)))))))) := by
 unfold q64q
 by_cases hl : e.Pages.length ≤ 12
 ·rw [containsI_s (l := e.Pages) (p1 := fun a0 => q80q a0) (fun p => decide (p < 0) || decide (p > 1152921504606846976)) (fun x _ => rfl) (by omega) (by omega), any_okP]
  simp only [Option.bind_some, Bool.not_not]
  have hd : decide ((e.Pages.length : Int) > 12) = false := by simp; omega
  simp only [hd, hl, decide_true, Bool.true_and, Bool.or_false]
  by_cases h : 1 ≤ e.Stamp.Source ∧ 0 ≤ e.Part ∧ e.Part ≤ 23 ∧ -1 ≤ e.Value ∧ e.Value ≤ 40 ∧ e.Marker = 0
  ·obtain ⟨h1, h2, h3, h4, h5, h6⟩ := h
   have c1 : decide (e.Stamp.Source < 1) = false := by simp; omega
   have c2 : decide (e.Part < 0) = false := by simp; omega
   have c3 : decide (e.Part ≥ 24) = false := by simp; omega
   have c4 : decide (e.Value < -1) = false := by simp; omega
   have c5 : decide (e.Value > 40) = false := by simp; omega
   simp [c1, c2, c3, c4, c5, h1, h2, h3, h4, h5, h6]
  ·have hb : (decide (e.Stamp.Source < 1) || (decide (e.Part < 0) || (decide (e.Part ≥ 24) || (decide (e.Value < -1) || (decide (e.Value > 40) || (e.Marker != 0)))))) = true := by
    simp; omega
   have hc : (decide (1 ≤ e.Stamp.Source) && (decide (0 ≤ e.Part) && (decide (e.Part ≤ 23) && (decide (-1 ≤ e.Value) && (decide (e.Value ≤ 40) && decide (e.Marker = 0)))))) = false := by
    rw [Bool.eq_false_iff]; intro hh; apply h; simpa using hh
   simp only [hb, hc, if_true, Bool.and_false]
 ·have hd : decide ((e.Pages.length : Int) > 12) = true := by simp; omega
  simp [hd, hl]
theorem all_nil_of {l : List Int} (h : l.length = 0) : l.all okP = true := by rw [List.eq_nil_of_length_eq_zero h]; rfl
theorem markValid_s {F : Nat} (hF : 20 < F) (e : Gq49) : q60q F e = some (okE e) := by
 unfold q60q okE
 rw [valid_s, validMark_s hF]
 simp only [Option.bind_some]
 cases e.Stamp.good with
 | false => simp
 | true =>
  simp only [Bool.not_true, Bool.false_eq_true, if_false, Bool.true_and]
  by_cases h1 : e.Script < 0
  ·have : ¬ 0 ≤ e.Script := by omega
   simp [h1, this]
  ·by_cases h2 : e.Script > 319999
   ·have : ¬ e.Script ≤ 319999 := by omega
    simp [h1, h2, this]
   ·have a1 : 0 ≤ e.Script := by omega
    have a2 : e.Script ≤ 319999 := by omega
    simp only [h1, h2, a1, a2, decide_true, decide_false, Bool.false_eq_true, if_false, Option.bind_some, Bool.true_and]
    by_cases k0 : e.Kind = 0
    ·simp [k0]
    ·have b0 : (e.Kind == 0) = false := by simp [k0]
     simp only [b0, k0, Bool.false_eq_true, if_false]
     by_cases hp : e.Pages.length = 0
     ·have q1 : ((e.Pages.length : Int) == 0) = true := by simp; exact List.eq_nil_of_length_eq_zero hp
      have q2 : e.Pages.length ≤ 12 := by omega
      simp only [q1, q2, all_nil_of hp, hp, decide_true, Bool.and_true, Bool.true_and]
      by_cases k1 : e.Kind = 1
      ·simp [k1]; rfl
      ·have b1 : (e.Kind == 1) = false := by simp [k1]
       simp only [b1, k1, Bool.false_eq_true, if_false]
       by_cases k2 : e.Kind = 2
       ·simp only [k2, beq_self_eq_true, if_true]
        congr 1
        rw [Bool.eq_iff_iff]; simp; omega
       ·have b2 : (e.Kind == 2) = false := by simp [k2]
        simp [b2, k2]
     ·have q1 : ((e.Pages.length : Int) == 0) = false := by
       rw [beq_eq_false_iff_ne]; omega
      simp only [q1, hp, decide_false, Bool.and_false]
      by_cases k1 : e.Kind = 1
      ·simp [k1]
      ·have b1 : (e.Kind == 1) = false := by simp [k1]
       simp only [b1, k1, Bool.false_eq_true, if_false]
       by_cases k2 : e.Kind = 2 <;> simp [k2]
end Go.Sh
set_option linter.unusedVariables false
set_option linter.unusedSimpArgs false
namespace Go.Sh
open Go.L

theorem markSame_s {F : Nat} {a b : Gq49} (hb : a.Pages.length < 10000000) (hF : a.Pages.length < F) : q53q F a b = some (decide (a = b)) := by
 unfold q53q
 rw [equal_s hb hF]
 obtain ⟨s, k, g, sl, f, t, c⟩ := a
 obtain ⟨s', k', g', sl', f', t', c'⟩ := b
 simp only [Gq49.mk.injEq, beq_iff_eq, Option.bind_some, decide_eq_true_eq]
 by_cases h1 : s = s'
 ·by_cases h2 : k = k'
  ·by_cases h3 : g = g'
   ·by_cases h4 : sl = sl'
    ·by_cases h5 : f = f'
     ·by_cases h6 : t = t'
      ·simp [h1, h2, h3, h4, h5, h6]
      ·simp [h1, h2, h3, h4, h5, h6]
     ·simp [h1, h2, h3, h4, h5]
    ·simp [h1, h2, h3, h4]
   ·simp [h1, h2, h3]
  ·simp [h1, h2]
 ·simp [h1]
def idE (e : Gq49) : Int × Int := (e.Stamp.Source, e.Stamp.Seq)
def PS (F : Nat) (l : List Gq49) : Prop := ∀ e ∈ l, e.Pages.length < 10000000 ∧ e.Pages.length < F
def fstOf (l : List Gq49) (k : Int × Int) : Option Nat := l.findIdx? fun e => okE e && decide (idE e = k)
def dispB (l : List Gq49) (e : Gq49) : Bool := l.any fun e' => okE e' && (decide (idE e' = idE e) && decide (e' ≠ e))
def grpOf (l : List Gq49) (k : Int × Int) : Option q0q := match fstOf l k with
 | .none => .none
 | some i => match l[i]? with
  | .none => .none
  | some e => some ⟨i, dispB l e⟩
theorem fstOf_some {l : List Gq49} {k : Int × Int} {i : Nat} (h : fstOf l k = some i) : ∃ e, l[i]? = some e ∧ okE e = true ∧ idE e = k := by
 unfold fstOf at h
 obtain ⟨h1, h2, h3⟩ := List.findIdx?_eq_some_iff_getElem.1 h
 simp only [Bool.and_eq_true, decide_eq_true_eq] at h2
 exact ⟨l[i], by simp [h1], h2.1, h2.2⟩
theorem fstOf_snoc {p : List Gq49} {x : Gq49} {k : Int × Int} : fstOf (p ++ [x]) k = match fstOf p k with
  | some i => some i
  | .none => if okE x = true ∧ idE x = k then some p.length else .none := by
 unfold fstOf
 rw [List.findIdx?_append]
 cases h : p.findIdx? fun e => okE e && decide (idE e = k) with
 | some i => simp
 | none =>
  simp only [List.findIdx?_cons, List.findIdx?_nil, Option.none_or, Option.map_none]
  by_cases hx : okE x = true ∧ idE x = k
  ·simp [hx.1, hx.2]
  ·have : (okE x && decide (idE x = k)) = false := by
    rw [Bool.eq_false_iff]; intro hh; apply hx; simpa using hh
   simp [this, hx]
theorem dispB_snoc {p : List Gq49} {x e : Gq49} : dispB (p ++ [x]) e = (dispB p e || (okE x && (decide (idE x = idE e) && decide (x ≠ e)))) := by
 unfold dispB; simp [List.any_append]
theorem grpOf_some {l : List Gq49} {k : Int × Int} {g : q0q} (h : grpOf l k = some g) : ∃ (i : Nat) (e : Gq49), g = ⟨i, dispB l e⟩ ∧ l[i]? = some e ∧ okE e = true ∧ idE e = k ∧ fstOf l k = some i := by
 unfold grpOf at h
 cases hf : fstOf l k with
 | none => rw [hf] at h; cases h
 | some i =>
  rw [hf] at h
  obtain ⟨e, h1, h2, h3⟩ := fstOf_some hf
  simp only [h1, Option.some.injEq] at h
  exact ⟨i, e, h.symm, h1, h2, h3, rfl⟩
theorem mput_keys {α β : Type} [DecidableEq α] (k : α) (v : β) : ∀ {m : List (α × β)}, (m.map (·.1)).Nodup → ((mput m k v).map (·.1)).Nodup
 | [], _ => by simp [mput]
 | (a, b) :: m, h => by
  simp only [List.map_cons, List.nodup_cons] at h
  unfold mput
  by_cases ha : a = k
  ·simp only [ha, if_true, List.map_cons, List.nodup_cons]; rw [← ha]; exact h
  ·simp only [ha, if_false, List.map_cons, List.nodup_cons]
   refine ⟨fun hm => ?_, mput_keys k v h.2⟩
   have : ∀ {m : List (α × β)}, a ∈ (mput m k v).map (·.1) → a ∈ m.map (·.1) := fun {m} => by
    induction m with
    | nil => intro hh; simp [mput] at hh; exact absurd hh ha
    | cons q m ih =>
     obtain ⟨c, d⟩ := q
     intro hh
     unfold mput at hh
     by_cases hc : c = k
     ·simp only [hc, if_true, List.map_cons, List.mem_cons] at hh ⊢
      exact hh
     ·simp only [hc, if_false, List.map_cons, List.mem_cons] at hh ⊢
      exact hh.imp (fun h => h) ih
   exact h.1 (this hm)
theorem mget_mem {α β : Type} [DecidableEq α] {k : α} {v : β} : ∀ {m : List (α × β)}, (m.map (·.1)).Nodup → ((k, v) ∈ m ↔ mget m k = some v)
 | [], _ => by simp [mget]
 | (a, b) :: m, h => by
  simp only [List.map_cons, List.nodup_cons] at h
  unfold mget
  by_cases ha : a = k
  ·subst ha
   simp only [if_true, Option.some.injEq, List.mem_cons, Prod.mk.injEq, true_and]
   constructor
   ·rintro (hh | hh)
    ·exact hh.symm
    ·exact absurd (List.mem_map.2 ⟨_, hh, rfl⟩) h.1
   ·exact fun hh => .inl hh.symm
  ·simp only [ha, if_false, List.mem_cons, Prod.mk.injEq]
   rw [← mget_mem h.2]
   constructor
   ·rintro (hh | hh)
    ·exact absurd hh.1.symm ha
    ·exact hh
   ·exact .inr
theorem groups_loop {F : Nat} (hF : 20 < F) {l : List Gq49} (hp : PS F l) (hb : l.length < 1000000) : ∀ (s p : List Gq49) (n : Nat) (m : List ((Int × Int) × q0q)), l = p ++ s → s.length < n → (m.map (·.1)).Nodup → m.length ≤ p.length → (∀ k, mget m k = grpOf p k) →
  ∃ m', q22q F l n (p.length : Int) m = some m' ∧ (m'.map (·.1)).Nodup ∧ m'.length ≤ l.length ∧ ∀ k, mget m' k = grpOf l k := by
 intro s
 induction s with
 | nil => intro p n m hl hn hd hm hg; cases n with
  | zero => omega
  | succ n =>
   have : l = p := by simpa using hl
   subst this
   exact ⟨m, by simp [q22q, q39q], hd, hm, hg⟩
 | cons x s ih => intro p n m hl hn hd hm hg; cases n with
  | zero => omega
  | succ n =>
   have hlen : p.length < 1000000 := by rw [hl] at hb; simp at hb; omega
   have d1 : decide ((p.length : Int) < (l.length : Int)) = true := by rw [hl]; exact dlt p x s
   have i1 : idx l (p.length : Int) = some x := by rw [hl]; exact idx_at p x s
   have hlp : l = (p ++ [x]) ++ s := by rw [hl]; simp
   have hml : ∀ k v, (mput m k v).length ≤ (p ++ [x]).length := fun k v => by
    have : ∀ m : List ((Int × Int) × q0q), (mput m k v).length ≤ m.length + 1 := fun m => by
     induction m with
     | nil => simp [mput]
     | cons q m ih => obtain ⟨a, b⟩ := q; unfold mput; split <;> simp <;> omega
    have := this m; simp; omega
   simp only [q22q, q39q, d1, if_true, i1, Option.bind_some, markValid_s hF]
   rw [nxt p x (by omega)]
   cases hv : okE x with
   | false =>
    simp only [Bool.not_false, if_true]
    refine ih (p ++ [x]) n m hlp (by simpa using hn) hd (by simp; omega) fun k => ?_
    rw [hg k]
    unfold grpOf
    rw [fstOf_snoc]
    cases hf : fstOf p k with
    | none => simp [hv]
    | some i =>
     obtain ⟨e, q1, q2, q3⟩ := fstOf_some hf
     have hi : i < p.length := (List.getElem?_eq_some_iff.1 q1).1
     simp only [List.getElem?_append_left hi, q1, dispB_snoc, hv, Bool.false_and, Bool.or_false]
   | true =>
    have hid : q96q x = some (idE x) := rfl
    simp only [Bool.not_true, Bool.false_eq_true, if_false, hid, Option.bind_some, hg (idE x)]
    have other : ∀ (g : q0q), grpOf (p ++ [x]) (idE x) = some g → ∀ k, mget (mput m (idE x) g) k = grpOf (p ++ [x]) k := fun g hgx k => by
     rw [mget_mput]
     by_cases hk : k = idE x
     ·rw [if_pos hk, hk, hgx]
     ·rw [if_neg hk, hg k]
      unfold grpOf
      rw [fstOf_snoc]
      cases hf : fstOf p k with
      | none => simp [Ne.symm hk]
      | some i =>
       obtain ⟨e, q1, q2, q3⟩ := fstOf_some hf
       have hi : i < p.length := (List.getElem?_eq_some_iff.1 q1).1
       have : idE x ≠ idE e := by rw [q3]; exact Ne.symm hk
       simp only [List.getElem?_append_left hi, q1, dispB_snoc, this, decide_false, Bool.false_and, Bool.and_false, Bool.or_false]
    cases hgp : grpOf p (idE x) with
    | none =>
     have hf : fstOf p (idE x) = .none := by
      cases hf : fstOf p (idE x) with
      | none => rfl
      | some i =>
       obtain ⟨e, q1, q2, q3⟩ := fstOf_some hf
       unfold grpOf at hgp; rw [hf] at hgp; simp [q1] at hgp
     simp only [Option.isSome_none, Bool.not_false, if_true, Option.getD_none]
     have hnone : ∀ e' ∈ p, okE e' = true → idE e' ≠ idE x := fun e' he' ho hi => by
      have := List.findIdx?_eq_none_iff.1 hf e' he'
      simp [ho, hi] at this
     refine ih (p ++ [x]) n _ hlp (by simpa using hn) (mput_keys _ _ hd) (hml _ _) (other _ ?_)
     unfold grpOf
     rw [fstOf_snoc, hf]
     simp only [hv, and_self, if_true, List.getElem?_concat_length, dispB_snoc]
     have : dispB p x = false := by
      unfold dispB
      rw [List.any_eq_false]
      intro e' he'
      by_cases ho : okE e' = true
      ·simp [ho, hnone e' he' ho]
      ·simp [ho]
     simp [this]
    | some g =>
     obtain ⟨i, e, rfl, q1, q2, q3, q4⟩ := grpOf_some hgp
     have hi : i < p.length := (List.getElem?_eq_some_iff.1 q1).1
     have il : idx l (i : Int) = some e := by
      rw [idx_nat, hl, List.getElem?_append_left hi]; exact q1
     have hme : e ∈ l := by rw [hl]; exact List.mem_append_left _ (List.mem_of_getElem? q1)
     simp only [Option.isSome_some, Bool.not_true, Bool.false_eq_true, if_false, Option.getD_some, il, Option.bind_some, markSame_s (hp e hme).1 (hp e hme).2]
     have hgx : grpOf (p ++ [x]) (idE x) = some ⟨i, dispB p e || decide (x ≠ e)⟩ := by
      unfold grpOf
      rw [fstOf_snoc, q4]
      simp only [List.getElem?_append_left hi, q1, dispB_snoc, hv, q3, decide_true, Bool.true_and]
     by_cases hxe : e = x
     ·subst hxe
      simp only [decide_true, Bool.not_true, Bool.false_eq_true, if_false]
      refine ih (p ++ [e]) n _ hlp (by simpa using hn) (mput_keys _ _ hd) (hml _ _) (other _ ?_)
      rw [hgx]; simp
     ·simp only [hxe, decide_false, Bool.not_false, if_true]
      refine ih (p ++ [x]) n _ hlp (by simpa using hn) (mput_keys _ _ hd) (hml _ _) (other _ ?_)
      rw [hgx]; simp [Ne.symm hxe]
theorem groups_s {F : Nat} (hF : 20 < F) {l : List Gq49} (hp : PS F l) (hb : l.length < 1000000) (hFl : l.length < F) : ∃ m, q92q F l = some m ∧ (m.map (·.1)).Nodup ∧ m.length ≤ l.length ∧ ∀ k g, (k, g) ∈ m ↔ grpOf l k = some g := by
 obtain ⟨m, h1, h2, h3, h4⟩ := groups_loop hF hp hb l [] F [] rfl hFl (by simp) (by simp) (fun k => by simp [mget, grpOf, fstOf])
 exact ⟨m, h1, h2, h3, fun k g => by rw [mget_mem h2, h4 k]⟩
end Go.Sh
set_option linter.unusedVariables false
set_option linter.unusedSimpArgs false
namespace Go.Sh
open Go.L

def ltE (a b : Gq49) : Prop := cmpSt a.Stamp b.Stamp < 0
def ltB (a b : Gq49) : Bool := decide (cmpSt a.Stamp b.Stamp < 0)
def Cmp (l : List Gq49) : Prop := l.Pairwise fun a b => ltE a b ∨ ltE b a
theorem ltE_irr (a : Gq49) : ¬ ltE a a := by unfold ltE; rw [cmpSt_lt]; omega
theorem ltE_trans {a b c : Gq49} (h : ltE a b) (h' : ltE b c) : ltE a c := by unfold ltE at *; rw [cmpSt_lt] at *; omega
theorem ltE_ntrans {a b c : Gq49} (h : ¬ ltE a b) (h' : ¬ ltE b c) : ¬ ltE a c := by unfold ltE at *; rw [cmpSt_lt] at *; omega
theorem ltE_tot {a b : Gq49} (h : a.Stamp ≠ b.Stamp) : ltE a b ∨ ltE b a := by
 unfold ltE; rw [cmpSt_lt, cmpSt_lt]
 obtain ⟨⟨t, s, q⟩, _, _, _, _, _, _⟩ := a
 obtain ⟨⟨t', s', q'⟩, _, _, _, _, _, _⟩ := b
 simp only [ne_eq, Gq56.mk.injEq] at h ⊢; omega
theorem Cmp.perm {a b : List Gq49} (h : a.Perm b) : Cmp a → Cmp b := fun hc => (List.Perm.pairwise_iff (fun {x y} h => h.symm) h).1 hc
theorem isortE {l : List Gq49} (h : Cmp l) : (isort ltB l).Pairwise ltE := by
 have := sorted_isort (lt := ltB) (l := l) (fun a _ b _ c _ h1 h2 => by simp only [ltB, decide_eq_true_eq] at *; exact ltE_trans h1 h2) (List.Pairwise.imp (fun {x y} hxy => by simp only [ltB, decide_eq_true_eq]; exact hxy) h)
 exact List.Pairwise.imp (fun {x y} hxy => by simpa [ltB, ltE] using hxy) this
theorem isort_perm {a b : List Gq49} (h : a.Perm b) (hc : Cmp a) : isort ltB a = isort ltB b :=
 sorted_ext ltE_irr (fun _ _ _ => ltE_trans) (isortE hc) (isortE (hc.perm h)) fun e => by rw [(perm_isort (lt := ltB) (l := a)).mem_iff, (perm_isort (lt := ltB) (l := b)).mem_iff, h.mem_iff]
def finC (acc : List Gq49) : List Gq49 × Int := if 2000 < acc.length then ([], 3) else (isort ltB acc, 0)
theorem finC_perm {a b : List Gq49} (h : a.Perm b) (hc : Cmp a) : finC a = finC b := by
 unfold finC; rw [h.length_eq, isort_perm h hc]
theorem canon1_s {F : Nat} (hF : 10 ≤ F) (a b : Gq49) : q25q F a b = some (cmpSt a.Stamp b.Stamp) := by
 unfold q25q; rw [stampCompare_s hF]; rfl
theorem sortE_s {F : Nat} (hF : 10 ≤ F) {l : List Gq49} (hb : l.length < 1000000) (hc : Cmp l) : sortF (fun a0 a1 => q25q F a0 a1) l = some (isort ltB l) :=
 sortF_eq ⟨perm_isort, hb, fun a b => cmpSt a.Stamp b.Stamp, fun x _ y _ => canon1_s hF x y, fun x _ => ltE_irr x, fun x _ y _ z _ => ltE_trans, fun x _ y _ z _ => ltE_ntrans, isortE hc⟩
theorem clone_s {e : Gq49} (h : e.Pages.length < 10000000) : q81q e = some e := by
 unfold q81q
 rw [app_of (by simp; omega)]; rfl
theorem clones_loop {l : List Gq49} (hb : l.length < 1000000) (hp : ∀ e ∈ l, e.Pages.length < 10000000) : ∀ (s p : List Gq49) (n : Nat), l = p ++ s → s.length < n → q10q l n (p.length : Int) l = some (l, 0) := by
 intro s
 induction s with
 | nil => intro p n hl hn; cases n with
  | zero => omega
  | succ n =>
   have : l = p := by simpa using hl
   subst this
   simp [q10q, q28q]
 | cons x s ih => intro p n hl hn; cases n with
  | zero => omega
  | succ n =>
   have hlen : p.length < 1000000 := by rw [hl] at hb; simp at hb; omega
   have d1 : decide ((p.length : Int) < (l.length : Int)) = true := by rw [hl]; exact dlt p x s
   have i1 : idx l (p.length : Int) = some x := by rw [hl]; exact idx_at p x s
   have hx := hp x (by rw [hl]; simp)
   have hset : l.set (p.length : Int).toNat x = l := by rw [hl]; simp
   simp only [q10q, q28q, d1, if_true, i1, Option.bind_some, clone_s hx, hset]
   rw [nxt p x (by omega)]
   exact ih (p ++ [x]) n (by rw [hl]; simp) (by simpa using hn)
theorem canonA_s {F : Nat} (hF : 10 ≤ F) {p l : List Gq49} (hb : l.length < 1000000) (hFl : l.length < F) (hp : ∀ e ∈ l, e.Pages.length < 10000000) (hc : Cmp l) : q27q F p l = some (finC l) := by
 unfold q27q finC
 by_cases h : 2000 < l.length
 ·have : decide ((l.length : Int) > 2000) = true := by simp; omega
  simp [this, h]
 ·have : decide ((l.length : Int) > 2000) = false := by simp; omega
  simp only [this, Bool.false_eq_true, if_false, h, sortE_s hF hb hc, Option.bind_some]
  have hpl := (perm_isort (lt := ltB) (l := l)).length_eq
  exact clones_loop (by omega) (fun e he => hp e (perm_isort.mem_iff.1 he)) _ [] F rfl (by omega)
def pickE (p : List Gq49) (z : (Int × Int) × q0q) : Option Gq49 := if z.2.disputed = true then .none else idx p z.2.first
theorem canonL_s {F : Nat} (hF : 10 ≤ F) {p : List Gq49} : ∀ (n : Nat) (left : List ((Int × Int) × q0q)) (acc : List Gq49), left.length < n → (∀ z ∈ left, z.2.disputed = false → ∃ e, idx p z.2.first = some e) → Cmp (acc ++ left.filterMap (pickE p)) → acc.length + left.length < 1000000 → acc.length + left.length < F → (∀ e ∈ acc ++ left.filterMap (pickE p), e.Pages.length < 10000000) →
  q17q F p n left acc = some (finC (acc ++ left.filterMap (pickE p))) := by
 intro n
 induction n with
 | zero => intro left acc hn; omega
 | succ n ih =>
  intro left acc hn hz hc hb hFb hp
  unfold q17q
  cases left with
  | nil =>
   simp only [List.isEmpty_nil, if_true, List.filterMap_nil, List.append_nil] at hc hp ⊢
   exact canonA_s hF (by simp at hb; omega) (by simp at hFb; omega) hp hc
  | cons z0 l0 =>
   simp only [List.isEmpty_cons, Bool.false_eq_true, if_false]
   refine anyPick_of (by simp) fun z left' hpm => ?_
   have hlen := hpm.length_eq
   simp only [List.length_cons] at hlen hn hb hFb
   have hzz : ∀ q ∈ left', q.2.disputed = false → ∃ e, idx p q.2.first = some e := fun q hq => hz q (hpm.mem_iff.2 (by simp [hq]))
   have hz1 := hz z (hpm.mem_iff.2 (by simp))
   have hperm : ((z0 :: l0).filterMap (pickE p)).Perm ((z :: left').filterMap (pickE p)) := hpm.filterMap _
   unfold q48q
   cases hd : z.2.disputed with
   | true =>
    have hpk : pickE p z = .none := by simp [pickE, hd]
    rw [List.filterMap_cons_none hpk] at hperm
    have hfull := hperm.append_left acc
    simp only [Bool.not_true, Bool.false_eq_true, if_false]
    rw [ih left' acc (by omega) hzz (hc.perm hfull) (by omega) (by omega) (fun e he => hp e (hfull.mem_iff.2 he)), finC_perm hfull hc]
   | false =>
    obtain ⟨e, he⟩ := hz1 hd
    have hpk : pickE p z = some e := by simp [pickE, hd, he]
    rw [List.filterMap_cons_some hpk] at hperm
    have hfull : (acc ++ (z0 :: l0).filterMap (pickE p)).Perm ((acc ++ [e]) ++ left'.filterMap (pickE p)) := by
     rw [List.append_assoc]; exact hperm.append_left acc
    simp only [Bool.not_false, if_true, he, Option.bind_some]
    rw [app_of (by simp; omega), Option.bind_some, ih left' (acc ++ [e]) (by omega) hzz (hc.perm hfull) (by simp; omega) (by simp; omega) (fun e he => hp e (hfull.mem_iff.2 he)), finC_perm hfull hc]
def goodB (l : List Gq49) (e : Gq49) : Bool := okE e && !dispB l e
def ddp : List Gq49 → List Gq49
 | [] => []
 | x :: s => if x ∈ ddp s then ddp s else x :: ddp s
theorem mem_ddp {e : Gq49} : ∀ {l : List Gq49}, e ∈ ddp l ↔ e ∈ l
 | [] => by simp [ddp]
 | x :: s => by
  unfold ddp
  have ih := mem_ddp (e := e) (l := s)
  split
  ·rename_i hx
   rw [ih, List.mem_cons]
   constructor
   ·exact .inr
   ·rintro (rfl | h)
    ·exact mem_ddp.1 hx
    ·exact h
  ·rw [List.mem_cons, List.mem_cons, ih]
theorem nodup_ddp : ∀ {l : List Gq49}, (ddp l).Nodup
 | [] => by simp [ddp]
 | x :: s => by
  unfold ddp
  split
  ·exact nodup_ddp
  ·rename_i hx; exact List.nodup_cons.2 ⟨hx, nodup_ddp⟩
theorem ddp_len : ∀ (l : List Gq49), (ddp l).length ≤ l.length
 | [] => by simp [ddp]
 | x :: s => by
  unfold ddp
  have := ddp_len s
  split <;> simp <;> omega
def cnt (l : List Gq49) : List Gq49 := ddp (l.filter (goodB l))
theorem mem_cnt {l : List Gq49} {e : Gq49} : e ∈ cnt l ↔ e ∈ l ∧ goodB l e = true := by unfold cnt; rw [mem_ddp, List.mem_filter]
theorem good_iff {l : List Gq49} {e : Gq49} : goodB l e = true ↔ okE e = true ∧ ∀ e' ∈ l, okE e' = true → idE e' = idE e → e' = e := by
 unfold goodB dispB
 rw [Bool.and_eq_true, Bool.not_eq_true', List.any_eq_false]
 constructor
 ·rintro ⟨h1, h2⟩
  refine ⟨h1, fun e' he' ho hi => ?_⟩
  have := h2 e' he'
  simp only [ho, hi, decide_true, Bool.true_and, decide_eq_true_eq, ne_eq, Decidable.not_not] at this
  exact this
 ·rintro ⟨h1, h2⟩
  refine ⟨h1, fun e' he' => ?_⟩
  intro hh
  simp only [Bool.and_eq_true, decide_eq_true_eq] at hh
  exact hh.2.2 (h2 e' he' hh.1 hh.2.1)
theorem cmp_of {l E : List Gq49} (hn : E.Nodup) (h : ∀ e ∈ E, e ∈ l ∧ goodB l e = true) : Cmp E := by
 refine List.Pairwise.imp_of_mem (fun {a b} ha hb hab => ?_) hn
 refine ltE_tot fun hs => hab ?_
 obtain ⟨a1, a2⟩ := h a ha
 obtain ⟨b1, b2⟩ := h b hb
 exact (good_iff.1 b2).2 a a1 (good_iff.1 a2).1 (by unfold idE; rw [hs])
theorem cnt_len (l : List Gq49) : (cnt l).length ≤ l.length := Nat.le_trans (ddp_len _) (List.length_filter_le _ _)
def canL (l : List Gq49) : List Gq49 := isort ltB (cnt l)
def canC (l : List Gq49) : List Gq49 × Int := finC (cnt l)
theorem mem_canL {l : List Gq49} {e : Gq49} : e ∈ canL l ↔ e ∈ l ∧ goodB l e = true := by unfold canL; rw [perm_isort.mem_iff, mem_cnt]
theorem canL_len (l : List Gq49) : (canL l).length ≤ l.length := by unfold canL; rw [perm_isort.length_eq]; exact cnt_len l
theorem canC_small {l : List Gq49} (h : l.length ≤ 2000) : canC l = (canL l, 0) := by
 unfold canC finC canL
 rw [if_neg (by have := cnt_len l; omega)]
theorem canon_s {F : Nat} (hF : 20 < F) {l : List Gq49} (hp : PS F l) (hb : l.length < 1000000) (hFl : l.length < F) : q13q F l = some (canC l) := by
 obtain ⟨m, h1, h2, h3, h4⟩ := groups_s hF hp hb hFl
 unfold q13q
 rw [h1, Option.bind_some]
 have hent : ∀ z ∈ m, ∃ (i : Nat) (e : Gq49), z.2 = ⟨i, dispB l e⟩ ∧ l[i]? = some e ∧ okE e = true ∧ idE e = z.1 ∧ fstOf l z.1 = some i := fun z hz => grpOf_some ((h4 z.1 z.2).1 hz)
 have hmem : ∀ e, e ∈ m.filterMap (pickE l) ↔ e ∈ l ∧ goodB l e = true := fun e => by
  rw [List.mem_filterMap]
  constructor
  ·rintro ⟨z, hz, hpk⟩
   obtain ⟨i, e0, q1, q2, q3, q4, q5⟩ := hent z hz
   unfold pickE at hpk
   rw [q1] at hpk
   simp only at hpk
   cases hd : dispB l e0 with
   | true => rw [hd] at hpk; simp at hpk
   | false =>
    rw [hd] at hpk
    simp only [Bool.false_eq_true, if_false, idx_nat, q2, Option.some.injEq] at hpk
    subst hpk
    exact ⟨List.mem_of_getElem? q2, by unfold goodB; rw [q3, hd]; rfl⟩
  ·rintro ⟨he, hg⟩
   obtain ⟨g1, g2⟩ := good_iff.1 hg
   have hsome : ∃ i, fstOf l (idE e) = some i := by
    cases hf : fstOf l (idE e) with
    | some i => exact ⟨i, rfl⟩
    | none =>
     have := List.findIdx?_eq_none_iff.1 hf e he
     simp [g1] at this
   obtain ⟨i, hi⟩ := hsome
   obtain ⟨e0, q1, q2, q3⟩ := fstOf_some hi
   have : e0 = e := g2 e0 (List.mem_of_getElem? q1) q2 q3
   subst this
   have hd : dispB l e0 = false := by unfold goodB at hg; simp only [Bool.and_eq_true, Bool.not_eq_true'] at hg; exact hg.2
   refine ⟨(idE e0, ⟨i, false⟩), (h4 _ _).2 ?_, ?_⟩
   ·unfold grpOf; rw [hi]; simp [q1, hd]
   ·simp [pickE, idx_nat, q1]
 have hnd : (m.filterMap (pickE l)).Nodup := by
  have hm : m.Pairwise fun a b => a.1 ≠ b.1 := List.pairwise_map.1 h2
  rw [List.Nodup, List.pairwise_filterMap]
  refine List.Pairwise.imp_of_mem (fun {a b} ha hb hab x hx y hy hxy => ?_) hm
  obtain ⟨i, e0, q1, q2, q3, q4, q5⟩ := hent a ha
  obtain ⟨i', e0', q1', q2', q3', q4', q5'⟩ := hent b hb
  have key : ∀ (z : (Int × Int) × q0q) (i : Nat) (e0 x : Gq49), z.2 = ⟨i, dispB l e0⟩ → l[i]? = some e0 → pickE l z = some x → x = e0 := fun z i e0 x w1 w2 w3 => by
   unfold pickE at w3
   rw [w1] at w3
   simp only at w3
   cases hd : dispB l e0 with
   | true => rw [hd] at w3; simp at w3
   | false => rw [hd] at w3; simp only [Bool.false_eq_true, if_false, idx_nat, w2, Option.some.injEq] at w3; exact w3.symm
  have e1 := key a i e0 x q1 q2 hx
  have e2 := key b i' e0' y q1' q2' hy
  apply hab
  rw [← q4, ← q4', ← e1, ← e2, hxy]
 have hc : Cmp (m.filterMap (pickE l)) := cmp_of hnd fun e he => (hmem e).1 he
 have hperm : (m.filterMap (pickE l)).Perm (cnt l) := (List.perm_ext_iff_of_nodup hnd nodup_ddp).2 fun e => by rw [hmem e]; exact mem_cnt.symm
 have := canonL_s (F := F) (by omega) (p := l) F m [] (by omega) (fun z hz _ => by
  obtain ⟨i, e0, q1, q2, _⟩ := hent z hz
  exact ⟨e0, by rw [q1]; simp [idx_nat, q2]⟩) (by simpa using hc) (by simp; omega) (by simp; omega) (fun e he => by
   have := ((hmem e).1 (by simpa using he)).1
   exact (hp e this).1)
 rw [this]
 simp only [List.nil_append]
 rw [finC_perm hperm hc]; rfl
end Go.Sh
set_option linter.unusedVariables false
set_option linter.unusedSimpArgs false
namespace Go.Sh
open Go.L

theorem samePages_eq (a b : List Int) : ∀ n, q34q a b n = q5q a b n
 | 0 => rfl
 | n + 1 => by
  show q68q a b (q34q a b n) = q6q a b (q5q a b n)
  rw [samePages_eq a b n]; rfl
theorem refSame_s {F : Nat} {a b : Gq49} (hb : a.Pages.length < 10000000) (hF : a.Pages.length < F) : q97q F a b = some (decide (a = b)) := by
 rw [← markSame_s hb hF]; unfold q97q q53q q110q q18q; rw [samePages_eq]
theorem sameList_loop {F : Nat} : ∀ (s s' p q : List Gq49) (n : Nat), p.length = q.length → s.length = s'.length → (p ++ s).length < 10000000 → PS F s → s.length < n → q23q F (p ++ s) (q ++ s') n (p.length : Int) = some (decide (s = s')) := by
 intro s
 induction s with
 | nil => intro s' p q n hpq hs hb hp hn; cases n with
  | zero => omega
  | succ n =>
   have : s' = [] := List.eq_nil_of_length_eq_zero (by simpa using hs.symm)
   subst this
   simp only [q23q, q42q, dge, Bool.false_eq_true, if_false, decide_true]
 | cons x s ih => intro s' p q n hpq hs hb hp hn; cases n with
  | zero => omega
  | succ n =>
   cases s' with
   | nil => simp at hs
   | cons y s' =>
    have hl : p.length < 10000000 := by simp at hb; omega
    have i2 : idx (q ++ y :: s') (p.length : Int) = some y := by rw [hpq]; exact idx_at q y s'
    have hx := hp x (by simp)
    simp only [q23q, q42q, dlt, if_true, idx_at, i2, Option.bind_some, refSame_s hx.1 hx.2]
    by_cases hxy : x = y
    ·subst hxy
     have := ih s' (p ++ [x]) (q ++ [x]) n (by simp [hpq]) (by simpa using hs) (by simpa using hb) (fun e he => hp e (by simp [he])) (by simpa using hn)
     simp only [decide_true, Bool.not_true, Bool.false_eq_true, if_false]
     rw [nxt p x (by omega), snoc p, snoc q, this]
     simp
    ·simp [hxy]
theorem sameList_s {F : Nat} {a b : List Gq49} (hb : a.length < 10000000) (hp : PS F a) (hF : a.length < F) : q33q F a b = some (decide (a = b)) := by
 unfold q33q
 by_cases h : a.length = b.length
 ·have h1 : ((a.length : Int) != (b.length : Int)) = false := by simp [h]
  simp only [h1, Bool.false_eq_true, if_false]
  exact sameList_loop a b [] [] F rfl h (by simpa using hb) hp hF
 ·have h1 : ((a.length : Int) != (b.length : Int)) = true := by simp; omega
  have h2 : a ≠ b := fun hab => h (by rw [hab])
  simp [h1, h2]
theorem before_s {F : Nat} (hF : 10 ≤ F) (a b : Gq49) : q70q F a b = some (ltB a b) := by
 unfold q70q; rw [stampCompare_s hF]; rfl
def ltP (a b : Int × Int) : Bool := decide (a.1 < b.1 ∨ a.1 = b.1 ∧ a.2 < b.2)
def cmpP (a b : Int × Int) : Int := if cmpS a.1 b.1 ≠ 0 then cmpS a.1 b.1 else cmpS a.2 b.2
theorem cmpP_lt {a b : Int × Int} : cmpP a b < 0 ↔ a.1 < b.1 ∨ a.1 = b.1 ∧ a.2 < b.2 := by
 unfold cmpP; split
 ·rename_i h; rw [cmpS_lt]; have := mt cmpS_zero.2 h; omega
 ·rename_i h; rw [cmpS_lt]; have := cmpS_zero.1 (Decidable.not_not.1 h); omega
theorem dspCmp_s {F : Nat} (hF : 10 ≤ F) (a b : Int × Int) : q32q F a b = some (cmpP a b) := by
 unfold q32q
 have e1 : ∀ z : Int × Int, idx [z.1, z.2] 0 = some z.1 := fun _ => rfl
 have e2 : ∀ z : Int × Int, idx [z.1, z.2] 1 = some z.2 := fun _ => rfl
 simp only [e1, e2, Option.bind_some, compare_s]
 rw [or_s (by simp) (by simp; omega)]
 simp only [Option.bind_some, orS, cmpP]
 repeat' split
 all_goals first | rfl | (simp_all; done) | skip
theorem ltP_tot {a b : Int × Int} (h : a ≠ b) : ltP a b = true ∨ ltP b a = true := by
 unfold ltP
 obtain ⟨x, y⟩ := a
 obtain ⟨x', y'⟩ := b
 simp only [ne_eq, Prod.mk.injEq, decide_eq_true_eq] at h ⊢; omega
theorem isortP {l : List (Int × Int)} (h : l.Nodup) : (isort ltP l).Pairwise fun a b => ltP a b = true :=
 sorted_isort (fun a _ b _ c _ h1 h2 => by simp only [ltP, decide_eq_true_eq] at *; omega) (List.Pairwise.imp (fun {x y} hxy => ltP_tot hxy) h)
theorem isortP_perm {a b : List (Int × Int)} (h : a.Perm b) (hn : a.Nodup) : isort ltP a = isort ltP b :=
 sorted_ext (R := fun a b => ltP a b = true) (fun a => by simp [ltP]) (fun a b c h1 h2 => by simp only [ltP, decide_eq_true_eq] at *; omega) (isortP hn) (isortP (h.nodup_iff.1 hn)) fun e => by rw [(perm_isort (lt := ltP) (l := a)).mem_iff, (perm_isort (lt := ltP) (l := b)).mem_iff, h.mem_iff]
theorem sortP_s {F : Nat} (hF : 10 ≤ F) {l : List (Int × Int)} (hb : l.length < 1000000) (hn : l.Nodup) : sortF (fun a0 a1 => q32q F a0 a1) l = some (isort ltP l) :=
 sortF_eq ⟨perm_isort, hb, cmpP, fun x _ y _ => dspCmp_s hF x y, fun x _ => by rw [cmpP_lt]; omega, fun x _ y _ z _ => by rw [cmpP_lt, cmpP_lt, cmpP_lt]; omega, fun x _ y _ z _ => by rw [cmpP_lt, cmpP_lt, cmpP_lt]; omega, List.Pairwise.imp (fun {x y} hxy => by rw [cmpP_lt]; simpa [ltP] using hxy) (isortP hn)⟩
def pickD (z : (Int × Int) × q0q) : Option (Int × Int) := if z.2.disputed = true then some z.1 else .none
theorem dspLoop_s {F : Nat} (hF : 10 ≤ F) : ∀ (n : Nat) (left : List ((Int × Int) × q0q)) (acc : List (Int × Int)), left.length < n → (acc ++ left.filterMap pickD).Nodup → acc.length + left.length < 1000000 →
  q26q F n left acc = some (isort ltP (acc ++ left.filterMap pickD)) := by
 intro n
 induction n with
 | zero => intro left acc hn; omega
 | succ n ih =>
  intro left acc hn hc hb
  unfold q26q
  cases left with
  | nil =>
   simp only [List.isEmpty_nil, if_true, List.filterMap_nil, List.append_nil] at hc ⊢
   unfold q57q
   rw [sortP_s hF (by simp at hb; omega) hc]; rfl
  | cons z0 l0 =>
   simp only [List.isEmpty_cons, Bool.false_eq_true, if_false]
   refine anyPick_of (by simp) fun z left' hpm => ?_
   have hlen := hpm.length_eq
   simp only [List.length_cons] at hlen hn hb
   have hperm : ((z0 :: l0).filterMap pickD).Perm ((z :: left').filterMap pickD) := hpm.filterMap _
   unfold q58q
   cases hd : z.2.disputed with
   | false =>
    have hpk : pickD z = .none := by simp [pickD, hd]
    rw [List.filterMap_cons_none hpk] at hperm
    have hfull := hperm.append_left acc
    simp only [Bool.false_eq_true, if_false]
    rw [ih left' acc (by omega) (hfull.nodup_iff.1 hc) (by omega), isortP_perm hfull hc]
   | true =>
    have hpk : pickD z = some z.1 := by simp [pickD, hd]
    rw [List.filterMap_cons_some hpk] at hperm
    have hfull : (acc ++ (z0 :: l0).filterMap pickD).Perm ((acc ++ [z.1]) ++ left'.filterMap pickD) := by
     rw [List.append_assoc]; exact hperm.append_left acc
    simp only [if_true]
    rw [app_of (by simp; omega), Option.bind_some, ih left' (acc ++ [z.1]) (by omega) (hfull.nodup_iff.1 hc) (by simp; omega), isortP_perm hfull hc]
def ddg : List (Int × Int) → List (Int × Int)
 | [] => []
 | x :: s => if x ∈ ddg s then ddg s else x :: ddg s
theorem mem_ddg {e : Int × Int} : ∀ {l : List (Int × Int)}, e ∈ ddg l ↔ e ∈ l
 | [] => by simp [ddg]
 | x :: s => by
  unfold ddg
  have ih := mem_ddg (e := e) (l := s)
  split
  ·rename_i hx
   rw [ih, List.mem_cons]
   constructor
   ·exact .inr
   ·rintro (rfl | h)
    ·exact mem_ddg.1 hx
    ·exact h
  ·rw [List.mem_cons, List.mem_cons, ih]
theorem nodup_ddg : ∀ {l : List (Int × Int)}, (ddg l).Nodup
 | [] => by simp [ddg]
 | x :: s => by
  unfold ddg
  split
  ·exact nodup_ddg
  ·rename_i hx; exact List.nodup_cons.2 ⟨hx, nodup_ddg⟩
def dspI (l : List Gq49) : List (Int × Int) := ddg ((l.filter fun e => okE e && dispB l e).map idE)
def dspL (l : List Gq49) : List (Int × Int) := isort ltP (dspI l)
theorem mem_dspI {l : List Gq49} {k : Int × Int} : k ∈ dspI l ↔ ∃ e ∈ l, okE e = true ∧ dispB l e = true ∧ idE e = k := by
 unfold dspI; rw [mem_ddg, List.mem_map]
 constructor
 ·rintro ⟨e, he, hk⟩
  rw [List.mem_filter, Bool.and_eq_true] at he
  exact ⟨e, he.1, he.2.1, he.2.2, hk⟩
 ·rintro ⟨e, he, h1, h2, hk⟩
  exact ⟨e, List.mem_filter.2 ⟨he, by rw [h1, h2]; rfl⟩, hk⟩
theorem mem_dspL {l : List Gq49} {k : Int × Int} : k ∈ dspL l ↔ ∃ e ∈ l, okE e = true ∧ dispB l e = true ∧ idE e = k := by
 unfold dspL; rw [perm_isort.mem_iff, mem_dspI]
theorem fst_of_mem {l : List Gq49} {e : Gq49} (he : e ∈ l) (ho : okE e = true) : ∃ i e0, fstOf l (idE e) = some i ∧ l[i]? = some e0 ∧ okE e0 = true ∧ idE e0 = idE e := by
 cases hf : fstOf l (idE e) with
 | some i =>
  obtain ⟨e0, q1, q2, q3⟩ := fstOf_some hf
  exact ⟨i, e0, rfl, q1, q2, q3⟩
 | none =>
  have := List.findIdx?_eq_none_iff.1 hf e he
  simp [ho] at this
theorem disp_first {l : List Gq49} {e e0 : Gq49} (he : e ∈ l) (ho : okE e = true) (hi : idE e0 = idE e) (hd : dispB l e = true) : dispB l e0 = true := by
 by_cases h : e = e0
 ·rw [← h]; exact hd
 ·unfold dispB
  rw [List.any_eq_true]
  exact ⟨e, he, by simp [ho, hi, h]⟩
theorem disputed_s {F : Nat} (hF : 20 < F) {l : List Gq49} (hp : PS F l) (hb : l.length < 1000000) (hFl : l.length < F) : q45q F l = some (dspL l) := by
 obtain ⟨m, h1, h2, h3, h4⟩ := groups_s hF hp hb hFl
 unfold q45q
 rw [h1, Option.bind_some]
 have hmem : ∀ k, k ∈ m.filterMap pickD ↔ k ∈ dspI l := fun k => by
  rw [List.mem_filterMap, mem_dspI]
  constructor
  ·rintro ⟨z, hz, hpk⟩
   obtain ⟨i, e0, q1, q2, q3, q4, q5⟩ := grpOf_some ((h4 z.1 z.2).1 hz)
   unfold pickD at hpk
   rw [q1] at hpk
   simp only at hpk
   cases hd : dispB l e0 with
   | false => rw [hd] at hpk; simp at hpk
   | true =>
    rw [hd] at hpk
    simp only [if_true, Option.some.injEq] at hpk
    exact ⟨e0, List.mem_of_getElem? q2, q3, hd, by rw [q4, hpk]⟩
  ·rintro ⟨e, he, ho, hd, hk⟩
   obtain ⟨i, e0, q1, q2, q3, q4⟩ := fst_of_mem he ho
   have hd0 := disp_first he ho q4 hd
   refine ⟨(idE e, ⟨i, true⟩), (h4 _ _).2 ?_, ?_⟩
   ·unfold grpOf; rw [q1]; simp [q2, hd0]
   ·simp [pickD, hk]
 have hnd : (m.filterMap pickD).Nodup := by
  have hm : m.Pairwise fun a b => a.1 ≠ b.1 := List.pairwise_map.1 h2
  rw [List.Nodup, List.pairwise_filterMap]
  refine List.Pairwise.imp (fun {a b} hab x hx y hy hxy => ?_) hm
  have key : ∀ (z : (Int × Int) × q0q) (x : Int × Int), pickD z = some x → z.1 = x := fun z x w => by
   unfold pickD at w; split at w
   ·exact Option.some.inj w
   ·cases w
  exact hab (by rw [key a x hx, key b y hy, hxy])
 rw [dspLoop_s (by omega) F m [] (by omega) (by simpa using hnd) (by simp; omega)]
 simp only [List.nil_append]
 exact congrArg some (isortP_perm ((List.perm_ext_iff_of_nodup hnd nodup_ddg).2 hmem) hnd)
def kn (t : Int) (l : List Gq49) : Nat := (min (max t 0) (l.length : Int)).toNat
theorem kn_le (t : Int) (l : List Gq49) : kn t l ≤ l.length := by unfold kn; omega
theorem PS.sub {F : Nat} {l l' : List Gq49} (h : PS F l) (hs : ∀ e ∈ l', e ∈ l) : PS F l' := fun e he => h e (hs e he)
theorem known_s {F : Nat} (hF : 20 < F) {l : List Gq49} (hp : PS F l) (hb : l.length < 1000000) (hFl : l.length < F) (t : Int) : q105q F l t = some (canC (l.take (kn t l))) := by
 unfold q105q
 have e1 : min (max t 0) (l.length : Int) = (kn t l : Int) := by unfold kn; omega
 have hle := kn_le t l
 rw [e1, slc_take hle, Option.bind_some, canon_s hF (hp.sub fun e he => List.mem_of_mem_take he) (by simp; omega) (by simp; omega)]; rfl
theorem until_loop {l : List Gq49} {t : Int} (hb : l.length < 1000000) (hp : ∀ e ∈ l, e.Pages.length < 10000000) : ∀ (s p : List Gq49) (n : Nat) (acc : List Gq49), l = p ++ s → s.length < n → acc.length ≤ p.length → q29q l t n (p.length : Int) acc = some (acc ++ s.filter fun e => decide (e.Stamp.Time ≤ t)) := by
 intro s
 induction s with
 | nil => intro p n acc hl hn ha; cases n with
  | zero => omega
  | succ n =>
   have : l = p := by simpa using hl
   subst this
   simp [q29q, q54q]
 | cons x s ih => intro p n acc hl hn ha; cases n with
  | zero => omega
  | succ n =>
   have hlen : p.length < 1000000 := by rw [hl] at hb; simp at hb; omega
   have d1 : decide ((p.length : Int) < (l.length : Int)) = true := by rw [hl]; exact dlt p x s
   have i1 : idx l (p.length : Int) = some x := by rw [hl]; exact idx_at p x s
   have hx := hp x (by rw [hl]; simp)
   simp only [q29q, q54q, d1, if_true, i1, Option.bind_some, clone_s hx]
   rw [nxt p x (by omega)]
   by_cases h : x.Stamp.Time ≤ t
   ·simp only [h, decide_true, if_true]
    rw [app_of (by simp; omega), Option.bind_some, ih (p ++ [x]) n (acc ++ [x]) (by rw [hl]; simp) (by simpa using hn) (by simpa using ha)]
    simp [h]
   ·simp only [h, decide_false, Bool.false_eq_true, if_false]
    rw [ih (p ++ [x]) n acc (by rw [hl]; simp) (by simpa using hn) (by simp; omega)]
    simp [h]
theorem until_s {F : Nat} {l : List Gq49} (hp : PS F l) (hb : l.length < 1000000) (hFl : l.length < F) (t : Int) : q106q F l t = some (l.filter fun e => decide (e.Stamp.Time ≤ t)) := by
 unfold q106q
 exact until_loop hb (fun e he => (hp e he).1) l [] F [] rfl hFl (by simp)
theorem sane_s {F : Nat} (hF : 20 < F) : q95q F = some true := by
 unfold q95q
 have hev : ∀ a b, q11q a b = some (Gq49.mk (Gq56.mk 5 7 a) 0 1 0 b 0 []) := fun _ _ => rfl
 have hps : ∀ x y : Gq49, x.Pages = [] → y.Pages = [] → PS F [x, y] := fun x y hx hy e he => by
  simp only [List.mem_cons, List.not_mem_nil, or_false] at he
  rcases he with rfl | rfl
  ·rw [hx]; simp; omega
  ·rw [hy]; simp; omega
 simp only [hev, Option.bind_some]
 rw [canon_s hF (hps _ _ rfl rfl) (by simp) (by simp; omega), canon_s hF (hps _ _ rfl rfl) (by simp) (by simp; omega), disputed_s hF (hps _ _ rfl rfl) (by simp) (by simp; omega)]
 have k1 : canC [Gq49.mk (Gq56.mk 5 7 3) 0 1 0 1 0 [], Gq49.mk (Gq56.mk 5 7 3) 0 1 0 2 0 []] = ([], 0) := by decide
 have k2 : canC [Gq49.mk (Gq56.mk 5 7 3) 0 1 0 1 0 [], Gq49.mk (Gq56.mk 5 7 3) 0 1 0 1 0 []] = ([Gq49.mk (Gq56.mk 5 7 3) 0 1 0 1 0 []], 0) := by decide
 have k3 : dspL [Gq49.mk (Gq56.mk 5 7 3) 0 1 0 1 0 [], Gq49.mk (Gq56.mk 5 7 3) 0 1 0 2 0 []] = [(7, 3)] := by decide
 have k4 : okE (Gq49.mk (Gq56.mk 5 7 3) 0 1 0 1 0 []) = true := by decide
 have k5 : ltB (Gq49.mk (Gq56.mk 5 7 1) 0 1 0 0 0 []) (Gq49.mk (Gq56.mk 5 7 2) 0 1 0 0 0 []) = true := by decide
 have i1 : idx [Gq49.mk (Gq56.mk 5 7 3) 0 1 0 1 0 []] 0 = some (Gq49.mk (Gq56.mk 5 7 3) 0 1 0 1 0 []) := rfl
 have i2 : idx [((7 : Int), (3 : Int))] 0 = some (7, 3) := rfl
 rw [k1, k2, k3]
 simp only [Option.bind_some]
 rw [i1, i2]
 simp only [Option.bind_some]
 rw [markSame_s (by simp) (by simp; omega), markValid_s hF, before_s (by omega), k4, k5]
 simp
end Go.Sh
set_option linter.unusedVariables false
set_option linter.unusedSimpArgs false
namespace Go.Sh
open Go.L

abbrev Suc {α : Type} (x : Option α) (P : α → Prop) : Prop := ∃ a, x = some a ∧ P a
theorem Suc.bind {α β : Type} {x : Option α} {f : α → Option β} {P : α → Prop} {Q : β → Prop} (h : Suc x P) (k : ∀ a, P a → Suc (f a) Q) : Suc (x.bind f) Q := by
 obtain ⟨a, rfl, ha⟩ := h; exact k a ha
theorem Suc.pure {α : Type} {a : α} {P : α → Prop} (h : P a) : Suc (some a) P := ⟨a, rfl, h⟩
theorem Suc.ite {α : Type} {c : Prop} [Decidable c] {a b : Option α} {P : α → Prop} (h1 : c → Suc a P) (h2 : ¬ c → Suc b P) : Suc (if c then a else b) P := by
 by_cases h : c
 ·rw [if_pos h]; exact h1 h
 ·rw [if_neg h]; exact h2 h
theorem Suc.app {α β : Type} {xs ys : List α} {f : List α → Option β} {Q : β → Prop} (h : xs.length + ys.length ≤ 1099511627776) (k : Suc (f (xs ++ ys)) Q) : Suc ((app xs ys).bind f) Q := by
 rw [app_of h]; exact k
theorem Suc.idx {α β : Type} {l : List α} {i : Int} {f : α → Option β} {Q : β → Prop} (h0 : 0 ≤ i) (h1 : i < (l.length : Int)) (k : ∀ x, x ∈ l → l[i.toNat]? = some x → Suc (f x) Q) : Suc ((idx l i).bind f) Q := by
 obtain ⟨j, rfl⟩ := Int.eq_ofNat_of_zero_le h0
 have hj : j < l.length := by omega
 rw [idx_lt hj, Option.bind_some]
 exact k _ (List.getElem_mem hj) (by simp [hj])
def D (d : GDice) : Prop := 0 ≤ d.At ∧ d.L.length ≤ 1000000
theorem next_s {d : GDice} {n : Int} (h : D d) (h1 : 1 ≤ n) (h2 : n ≤ 1000000000) : Suc (Gq14 d n) fun r => 0 ≤ r.1 ∧ r.1 < n ∧ D r.2 := by
 unfold Gq14
 refine Suc.ite (fun _ => Suc.pure ⟨by simp, by simp; omega, h⟩) fun hc => ?_
 simp only [Bool.or_eq_true, decide_eq_true_eq, not_or] at hc
 obtain ⟨q1, q2⟩ := h
 refine Suc.idx q1 (by omega) fun x _ _ => ?_
 have hr : rmd x n = some (x.tmod n) := by unfold rmd; rw [if_neg (by omega)]
 rw [hr, Option.bind_some]
 have b1 := Int.tmod_lt_of_pos x (b := n) (by omega)
 have b2 := Int.lt_tmod_of_pos x (b := n) (by omega)
 have hd : D (GDice.mk d.L (i64 (d.At + 1))) := by
  refine ⟨?_, q2⟩
  show 0 ≤ i64 (d.At + 1)
  rw [i64_of (by omega) (by omega)]; omega
 refine Suc.ite (fun hc => Suc.pure ?_) fun hc => Suc.pure ?_
 ·simp only [decide_eq_true_eq] at hc
  refine ⟨?_, ?_, hd⟩
  ·show 0 ≤ i64 (x.tmod n + n); rw [i64_of (by omega) (by omega)]; omega
  ·show i64 (x.tmod n + n) < n; rw [i64_of (by omega) (by omega)]; omega
 ·simp only [decide_eq_true_eq] at hc
  exact ⟨by show 0 ≤ x.tmod n; omega, b1, hd⟩
theorem nextA {d : GDice} {n : Int} (h : D d) : Suc (Gq14 d n) fun r => D r.2 := by
 unfold Gq14
 refine Suc.ite (fun _ => Suc.pure h) fun hc => ?_
 simp only [Bool.or_eq_true, decide_eq_true_eq, not_or] at hc
 obtain ⟨q1, q2⟩ := h
 refine Suc.idx q1 (by omega) fun x _ _ => ?_
 have hr : rmd x n = some (x.tmod n) := by unfold rmd; rw [if_neg (by omega)]
 rw [hr, Option.bind_some]
 have hd : D (GDice.mk d.L (i64 (d.At + 1))) := by
  refine ⟨?_, q2⟩
  show 0 ≤ i64 (d.At + 1)
  rw [i64_of (by omega) (by omega)]; omega
 exact Suc.ite (fun hc => Suc.pure hd) fun hc => Suc.pure hd
theorem bool_s {d : GDice} {n : Int} (h : D d) : Suc (Gq0 d n) fun r => D r.2 := by
 unfold Gq0
 exact (nextA h).bind fun r hr => Suc.pure hr
theorem pick_s {d : GDice} {l : List Int} (h : D d) (h1 : l ≠ []) (h2 : l.length ≤ 1000000000) : Suc (Gq25 d l) fun r => r.1 ∈ l ∧ D r.2 := by
 unfold Gq25
 have := List.length_pos_iff.2 h1
 refine (next_s h (by omega) (by omega)).bind fun r hr => ?_
 exact Suc.idx hr.1 hr.2.1 fun x hx _ => Suc.pure ⟨hx, hr.2.2⟩
def POk (p : Gq52) : Prop := p.Parts ≠ [] ∧ p.Parts.length ≤ 3
theorem paper1_s {a b : Int} {l : List Int} {n : Int} {ps : List GPart} (h : D (GDice.mk l n)) (h1 : ps ≠ []) (h2 : ps.length ≤ 2) : Suc (Gq17 a b l n ps) fun r => POk r.1 ∧ D r.2 := by
 unfold Gq17
 refine (nextA h).bind fun r hr => ?_
 refine Suc.ite (fun _ => ?_) fun _ => Suc.pure ⟨⟨h1, by show ps.length ≤ 3; omega⟩, hr⟩
 refine (nextA hr).bind fun r' hr' => ?_
 exact Suc.app (by simp; omega) (Suc.pure ⟨⟨by simp, by simp; omega⟩, hr'⟩)
theorem paperD_s {d : GDice} {a b : Int} (h : D d) : Suc (Gq16 d a b) fun r => POk r.1 ∧ D r.2 := by
 unfold Gq16
 refine (nextA h).bind fun r hr => ?_
 refine (nextA hr).bind fun r' hr' => ?_
 refine Suc.ite (fun _ => ?_) fun _ => paper1_s hr' (by simp) (by simp)
 refine (nextA hr').bind fun r2 hr2 => ?_
 refine (nextA hr2).bind fun r3 hr3 => ?_
 exact Suc.app (by simp) (paper1_s hr3 (by simp) (by simp))
theorem scheme_s {d : GDice} {p : Gq52} (h : D d) (hp : POk p) : Suc (Gq27 d p) fun r => D r.2 := by
 unfold Gq27
 have hl := List.length_pos_iff.2 hp.1
 have hl2 := hp.2
 rw [mkl_of (by omega), mkl_of (by omega), Option.bind_some, Option.bind_some]
 refine (bool_s h).bind fun r hr => ?_
 refine Suc.ite (fun _ => ?_) fun _ => Suc.pure hr
 refine (next_s hr (by omega) (by omega)).bind fun r' hr' => ?_
 refine (nextA hr'.2.2).bind fun r2 hr2 => ?_
 exact Suc.idx hr'.1 (by simp; exact hr'.2.1) fun x _ _ => Suc.pure hr2
theorem papers2_s {F : Nat} (hF : 20 < F) {ps : List Gq52} {l : List Int} {n : Int} (h : D (GDice.mk l n)) (hp : ∀ p ∈ ps, POk p) (hl : ps.length ≤ 3) : Suc (Gq21 F ps l n) fun r => r.1 = ps ∧ D r.2.2 := by
 unfold Gq21
 refine loop4 (L := Gq22 ps) (B := Gq23 ps) (fun _ => rfl) (fun i l n a => D (GDice.mk l n) ∧ 0 ≤ i ∧ i ≤ ps.length ∧ (a.length : Int) ≤ i) (fun i _ _ _ => ps.length - i.toNat) (fun r => r.1 = ps ∧ D r.2.2) ?_ F 0 l n [] ⟨h, by omega, by omega, by simp⟩ (by simp; omega)
 intro rec i l n a hI ih
 obtain ⟨q1, q2, q3, q4⟩ := hI
 unfold Gq23
 refine Suc.ite (fun hc => ?_) fun hc => Suc.pure ⟨rfl, q1⟩
 simp only [decide_eq_true_eq] at hc
 refine Suc.idx q2 hc fun x hx _ => ?_
 refine (scheme_s q1 (hp x hx)).bind fun r hr => ?_
 have hi : i64 (i + 1) = i + 1 := i64_of (by omega) (by omega)
 refine Suc.app (by simp; omega) ?_
 rw [hi]
 exact ih _ _ _ _ ⟨hr, by omega, by omega, by simp; omega⟩ (by omega)
theorem papers1_s {F : Nat} (hF : 20 < F) {ps : List Gq52} {l : List Int} {n : Int} (h : D (GDice.mk l n)) (hp : ∀ p ∈ ps, POk p) (hl : ps.length ≤ 2) : Suc (Gq20 F l n ps) fun r => (∀ p ∈ r.1, POk p) ∧ r.1.length ≤ 3 ∧ D r.2.2 := by
 unfold Gq20
 refine (bool_s h).bind fun r hr => ?_
 refine Suc.ite (fun _ => ?_) fun _ => ?_
 ·refine (paperD_s hr).bind fun r' hr' => ?_
  refine Suc.app (by simp; omega) ?_
  have hp' : ∀ p ∈ ps ++ [r'.1], POk p := fun p hp1 => by
   rcases List.mem_append.1 hp1 with h1 | h1
   ·exact hp p h1
   ·rw [List.mem_singleton.1 h1]; exact hr'.1
  obtain ⟨a, e1, e2, e3⟩ := papers2_s hF (l := r'.2.L) (n := r'.2.At) hr'.2 hp' (by simp; omega)
  exact ⟨a, e1, by rw [e2]; exact hp', by rw [e2]; simp; omega, e3⟩
 ·obtain ⟨a, e1, e2, e3⟩ := papers2_s hF (l := r.2.L) (n := r.2.At) hr hp (by omega)
  exact ⟨a, e1, by rw [e2]; exact hp, by rw [e2]; omega, e3⟩
theorem papers_s {F : Nat} (hF : 20 < F) {d : GDice} (h : D d) : Suc (Gq19 F d) fun r => (∀ p ∈ r.1, POk p) ∧ r.1.length ≤ 3 ∧ D r.2.2 := by
 unfold Gq19
 refine (paperD_s h).bind fun r hr => ?_
 refine (bool_s hr.2).bind fun r1 hr1 => ?_
 refine Suc.ite (fun _ => ?_) fun _ => papers1_s hF hr1 (by simpa using hr.1) (by simp)
 refine (paperD_s hr1).bind fun r2 hr2 => ?_
 refine Suc.app (by simp) (papers1_s hF hr2.2 (fun p hp => ?_) (by simp))
 simp only [List.cons_append, List.nil_append, List.mem_cons, List.not_mem_nil, or_false] at hp
 rcases hp with rfl | rfl
 ·exact hr.1
 ·exact hr2.1
theorem markers_s {F : Nat} (hF : 20 < F) {d : GDice} (h : D d) : Suc (Gq8 F d) fun r => r.1 ≠ [] ∧ r.1.length ≤ 5 ∧ D r.2 := by
 unfold Gq8
 refine (next_s h (by omega) (by omega)).bind fun r hr => ?_
 have hi : i64 (2 + r.1) = 2 + r.1 := i64_of (by omega) (by omega)
 rw [hi]
 refine loop5 (L := Gq9) (B := Gq10) (fun _ => rfl) (fun _ n l a ms => D (GDice.mk l a) ∧ 0 ≤ n ∧ (2 : Int) ≤ ms.length + n ∧ (ms.length : Int) + n ≤ 5) (fun _ n _ _ _ => n.toNat) _ ?_ F 0 (2 + r.1) r.2.L r.2.At [] ⟨hr.2.2, by omega, by simp; omega, by simp; omega⟩ (by omega)
 intro rec i n l a ms hI ih
 obtain ⟨q1, q2, q3, q4⟩ := hI
 unfold Gq10
 refine Suc.ite (fun hc => ?_) fun hc => ?_
 ·simp only [decide_eq_true_eq] at hc
  refine (nextA q1).bind fun r1 h1 => ?_
  refine (pick_s h1 (by simp) (by simp)).bind fun r2 h2 => ?_
  refine (pick_s h2.2 (by simp) (by simp)).bind fun r3 h3 => ?_
  refine (pick_s h3.2 (by simp) (by simp)).bind fun r4 h4 => ?_
  refine (next_s h4.2 (by omega) (by omega)).bind fun r5 h5 => ?_
  refine Suc.idx h5.1 (by simpa using h5.2.1) fun x _ _ => ?_
  refine Suc.app (by simp; omega) ?_
  have hi : i64 (n - 1) = n - 1 := i64_of (by omega) (by omega)
  rw [hi]
  exact ih _ _ _ _ _ ⟨h5.2.2, by omega, by simp; omega, by simp; omega⟩ (by omega)
 ·simp only [decide_eq_true_eq] at hc
  refine Suc.pure ⟨?_, ?_, q1⟩
  ·show ms ≠ []; intro hm; rw [hm] at q3; simp at q3; omega
  ·show ms.length ≤ 5; omega
theorem script_s {F : Nat} (hF : 20 < F) {d : GDice} {p : Gq52} {c : Int} (h : D d) (hp : POk p) : Suc (Gq29 F d p c) fun r => r.1.Paper = p.Code ∧ r.1.Variant = p.Variant ∧ r.1.Pages.length ≤ 2 ∧ D r.2 := by
 unfold Gq29
 refine (nextA h).bind fun r1 h1 => ?_
 refine (nextA h1).bind fun r2 h2 => ?_
 have hl := hp.2
 refine loop4 (L := Gq30 p c r1 r2) (B := Gq31 p c r1 r2) (fun _ => rfl) (fun i l n a => D (GDice.mk l n) ∧ 0 ≤ i ∧ i ≤ p.Parts.length ∧ (a.length : Int) ≤ i) (fun i _ _ _ => p.Parts.length - i.toNat) _ ?_ F 0 r2.2.L r2.2.At [] ⟨h2, by omega, by omega, by simp⟩ (by simp; omega)
 intro rec i l n a hI ih
 obtain ⟨q1, q2, q3, q4⟩ := hI
 unfold Gq31
 refine Suc.ite (fun hc => ?_) fun hc => Suc.pure ⟨rfl, rfl, by simp, q1⟩
 simp only [decide_eq_true_eq] at hc
 have hi : i64 (i + 1) = i + 1 := i64_of (by omega) (by omega)
 refine Suc.idx q2 hc fun x _ _ => ?_
 refine Suc.ite (fun _ => ?_) fun _ => ?_
 ·refine Suc.idx q2 hc fun x _ _ => ?_
  refine (pick_s q1 (by simp) (by simp)).bind fun r3 h3 => ?_
  refine Suc.app (by simp; omega) ?_
  rw [hi]
  exact ih _ _ _ _ ⟨h3.2, by omega, by omega, by simp; omega⟩ (by omega)
 ·refine Suc.app (by simp; omega) ?_
  rw [hi]
  exact ih _ _ _ _ ⟨q1, by omega, by omega, by simp; omega⟩ (by omega)
def SOk (ps : List Gq52) (s : Gq54) : Prop := s.Pages.length ≤ 2 ∧ ∃ p ∈ ps, p.Code = s.Paper ∧ p.Variant = s.Variant
theorem scripts_s {F : Nat} (hF : 20 < F) {d : GDice} {ps : List Gq52} (h : D d) (hp : ∀ p ∈ ps, POk p) (hl : ps.length ≤ 3) : Suc (Gq33 F d ps 4) fun r => (∀ s ∈ r.1, SOk ps s) ∧ r.1.length ≤ 8 ∧ D r.2 := by
 unfold Gq33
 refine loop4 (L := Gq34 F ps 4) (B := Gq35 F ps 4) (fun _ => rfl) (fun i l n a => D (GDice.mk l n) ∧ 0 ≤ i ∧ i ≤ 2 ∧ (a.length : Int) ≤ 4 * i ∧ ∀ s ∈ a, SOk ps s) (fun i _ _ _ => 2 - i.toNat) _ ?_ F 0 d.L d.At [] ⟨h, by omega, by omega, by simp, by simp⟩ (by simp; omega)
 intro rec i l n a hI ih
 obtain ⟨q1, q2, q3, q4, q5⟩ := hI
 unfold Gq35
 refine Suc.ite (fun hc => ?_) fun hc => Suc.pure ⟨q5, by show a.length ≤ 8; omega, q1⟩
 simp only [decide_eq_true_eq] at hc
 refine loop2 (L := Gq36 rec F ps 4 i l n a) (B := Gq37 rec F ps 4 i l n a) (fun _ => rfl) (fun j b => 0 ≤ j ∧ j ≤ ps.length ∧ (b.length : Int) ≤ j ∧ ∀ p ∈ b, p ∈ ps) (fun j _ => ps.length - j.toNat) _ ?_ F 0 [] ⟨by omega, by omega, by simp, by simp⟩ (by simp; omega)
 intro rec2 j b hJ ih2
 obtain ⟨p1, p2, p3, p4⟩ := hJ
 unfold Gq37
 have hj : i64 (j + 1) = j + 1 := i64_of (by omega) (by omega)
 refine Suc.ite (fun hc => ?_) fun hc => ?_
 ·simp only [decide_eq_true_eq] at hc
  refine Suc.idx p1 hc fun x _ _ => ?_
  refine Suc.ite (fun _ => ?_) fun _ => ?_
  ·refine Suc.idx p1 hc fun x hx _ => ?_
   refine Suc.app (by simp; omega) ?_
   rw [hj]
   refine ih2 _ _ ⟨by omega, by omega, by simp; omega, fun p hp1 => ?_⟩ (by omega)
   rcases List.mem_append.1 hp1 with h1 | h1
   ·exact p4 p h1
   ·rw [List.mem_singleton.1 h1]; exact hx
  ·rw [hj]
   exact ih2 _ _ ⟨by omega, by omega, by omega, p4⟩ (by omega)
 ·refine loop4 (L := Gq38 rec F 4 i b) (B := Gq39 rec F 4 i b) (fun _ => rfl) (fun k l n a => D (GDice.mk l n) ∧ 1 ≤ k ∧ k ≤ 5 ∧ (a.length : Int) ≤ 4 * i + (k - 1) ∧ ∀ s ∈ a, SOk ps s) (fun k _ _ _ => 5 - k.toNat) _ ?_ F 1 l n a ⟨q1, by omega, by omega, by omega, q5⟩ (by omega)
  intro rec3 k l n a hI ih3
  obtain ⟨q1, k1, k2, q4, q5⟩ := hI
  unfold Gq39
  refine Suc.ite (fun hc => ?_) fun hc => ?_
  ·simp only [Bool.and_eq_true, decide_eq_true_eq] at hc
   have hk : i64 (k + 1) = k + 1 := i64_of (by omega) (by omega)
   refine (nextA q1).bind fun r1 h1 => ?_
   refine Suc.ite (fun _ => ?_) fun _ => ?_
   ·refine (next_s h1 (by omega) (by omega)).bind fun r2 h2 => ?_
    refine Suc.idx h2.1 h2.2.1 fun x hx _ => ?_
    refine (script_s hF h2.2.2 (hp x (p4 x hx))).bind fun r3 h3 => ?_
    refine Suc.app (by simp; omega) ?_
    rw [hk]
    refine ih3 _ _ _ _ ⟨h3.2.2.2, by omega, by omega, by simp; omega, fun s hs => ?_⟩ (by omega)
    rcases List.mem_append.1 hs with h1 | h1
    ·exact q5 s h1
    ·rw [List.mem_singleton.1 h1]; exact ⟨h3.2.2.1, x, p4 x hx, h3.1.symm, h3.2.1.symm⟩
   ·rw [hk]
    exact ih3 _ _ _ _ ⟨h1, by omega, by omega, by omega, q5⟩ (by omega)
  ·have hi : i64 (i + 1) = i + 1 := i64_of (by omega) (by omega)
   rw [hi]
   exact ih _ _ _ _ ⟨q1, by omega, by omega, by omega, q5⟩ (by omega)
theorem monitor_s {d : GDice} (h : D d) : Suc (Gq12 d) fun r => D r.2 := by
 unfold Gq12
 refine (nextA h).bind fun r1 h1 => ?_
 refine (nextA h1).bind fun r2 h2 => ?_
 refine (nextA h2).bind fun r3 h3 => ?_
 exact (nextA h3).bind fun r4 h4 => Suc.pure h4
theorem markPaper_s {F : Nat} (hF : 20 < F) {ps : List Gq52} {s : Gq54} (hl : ps.length ≤ 3) (h : SOk ps s) : Suc (q115q F ps s) fun r => r ∈ ps := by
 unfold q115q
 obtain ⟨p, hp, h1, h2⟩ := h.2
 obtain ⟨j, hj, hpj⟩ := List.getElem_of_mem hp
 refine loop1 (L := q104q ps s) (B := q88q ps s) (fun _ => rfl) (fun i => 0 ≤ i ∧ i ≤ (j : Int)) (fun i => ps.length - i.toNat) _ ?_ F 0 ⟨by omega, by omega⟩ (by simp; omega)
 intro rec i hI ih
 obtain ⟨q1, q2⟩ := hI
 unfold q88q
 refine Suc.ite (fun hc => ?_) fun hc => ?_
 ·have hlt : i < (ps.length : Int) := by omega
  obtain ⟨k, rfl⟩ := Int.eq_ofNat_of_zero_le q1
  have hk : k < ps.length := by omega
  have hi : i64 ((k : Int) + 1) = (k : Int) + 1 := i64_of (by omega) (by omega)
  rw [idx_lt hk]
  simp only [Option.bind_some]
  by_cases c1 : ps[k].Code = s.Paper
  ·by_cases c2 : ps[k].Variant = s.Variant
   ·simp only [c1, c2, beq_self_eq_true, if_true, Option.bind_some]
    exact Suc.pure (List.getElem_mem hk)
   ·have : (ps[k].Variant == s.Variant) = false := by simp [c2]
    simp only [c1, this, beq_self_eq_true, if_true, Option.bind_some, Bool.false_eq_true, if_false]
    rw [hi]
    refine ih _ ⟨by omega, ?_⟩ (by omega)
    rcases Nat.lt_or_ge k j with hlt | hge
    ·omega
    ·have : k = j := by omega
     subst this
     rw [hpj] at c2
     exact absurd h2 c2
  ·have : (ps[k].Code == s.Paper) = false := by simp [c1]
   simp only [this, Option.bind_some, Bool.false_eq_true, if_false]
   rw [hi]
   refine ih _ ⟨by omega, ?_⟩ (by omega)
   rcases Nat.lt_or_ge k j with hlt | hge
   ·omega
   ·have : k = j := by omega
    subst this
    rw [hpj] at c1
    exact absurd h1 c1
 ·simp only [decide_eq_true_eq] at hc; omega
theorem seed_s {F : Nat} (hF : 20 < F) {d : GDice} {ps : List Gq52} {s : Gq54} (h : D d) (hp : ∀ p ∈ ps, POk p) (hl : ps.length ≤ 3) (hs : SOk ps s) : Suc (Gq41 F d ps s) fun r => D r.2 := by
 unfold Gq41
 refine (markPaper_s hF hl hs).bind fun p h1 => ?_
 have hpl := (hp p h1).2
 refine loop4 (L := Gq42 s p) (B := Gq43 s p) (fun _ => rfl) (fun i l n a => D (GDice.mk l n) ∧ 0 ≤ i ∧ i ≤ p.Parts.length ∧ (a.length : Int) ≤ i) (fun i _ _ _ => p.Parts.length - i.toNat) _ ?_ F 0 d.L d.At [] ⟨h, by omega, by omega, by simp⟩ (by simp; omega)
 intro rec i l n a hI ih
 obtain ⟨q1, q2, q3, q4⟩ := hI
 unfold Gq43
 refine Suc.ite (fun hc => ?_) fun hc => Suc.pure q1
 simp only [decide_eq_true_eq] at hc
 have hi : i64 (i + 1) = i + 1 := i64_of (by omega) (by omega)
 refine Suc.idx q2 hc fun x _ _ => ?_
 refine (nextA q1).bind fun r3 h3 => ?_
 refine Suc.app (by simp; omega) ?_
 rw [hi]
 exact ih _ _ _ _ ⟨h3, by omega, by omega, by simp; omega⟩ (by omega)
structure UOk (s : Gq55) : Prop where
 m0 : s.Markers ≠ []
 m1 : s.Markers.length ≤ 5
 s0 : ∀ x ∈ s.Scripts, SOk s.Papers x
 s1 : s.Scripts.length ≤ 8
 p0 : ∀ p ∈ s.Papers, POk p
 p1 : s.Papers.length ≤ 3
theorem setup_s {F : Nat} (hF : 20 < F) {d : GDice} (h : D d) : Suc (Gq45 F d) fun r => UOk r.1 ∧ D r.2 := by
 unfold Gq45
 refine (papers_s hF h).bind fun r1 h1 => ?_
 refine (markers_s hF h1.2.2).bind fun r2 h2 => ?_
 refine (scripts_s hF h2.2.2 h1.1 h1.2.1).bind fun r3 h3 => ?_
 refine (monitor_s h3.2.2).bind fun r4 h4 => ?_
 have hl := h3.2.1
 refine loop4 (L := Gq46 F r1 r2 r3 r4) (B := Gq47 F r1 r2 r3 r4) (fun _ => rfl) (fun i l n a => D (GDice.mk l n) ∧ 0 ≤ i ∧ i ≤ r3.1.length ∧ (a.length : Int) ≤ i) (fun i _ _ _ => r3.1.length - i.toNat) _ ?_ F 0 r4.2.L r4.2.At [] ⟨h4, by omega, by omega, by simp⟩ (by simp; omega)
 intro rec i l n a hI ih
 obtain ⟨q1, q2, q3, q4⟩ := hI
 unfold Gq47
 refine Suc.ite (fun hc => ?_) fun hc => Suc.pure ⟨⟨h2.1, h2.2.1, h3.1, h3.2.1, h1.1, h1.2.1⟩, q1⟩
 simp only [decide_eq_true_eq] at hc
 have hi : i64 (i + 1) = i + 1 := i64_of (by omega) (by omega)
 refine (bool_s q1).bind fun r5 h5 => ?_
 refine Suc.ite (fun _ => ?_) fun _ => ?_
 ·refine Suc.idx q2 hc fun x hx _ => ?_
  refine (seed_s hF h5 h1.1 h1.2.1 (h3.1 x hx)).bind fun r6 h6 => ?_
  refine Suc.app (by simp; omega) ?_
  rw [hi]
  exact ih _ _ _ _ ⟨h6, by omega, by omega, by simp; omega⟩ (by omega)
 ·rw [hi]
  exact ih _ _ _ _ ⟨h5, by omega, by omega, by omega⟩ (by omega)
theorem mark_s {F : Nat} (hF : 20 < F) {d : GDice} {s : Gq55} {q t : Int} (h : D d) (hs : UOk s) : Suc (Gq6 F d s q t) fun r => r.1.Stamp.Time = t ∧ r.1.Stamp.Seq = q ∧ r.1.Pages.length ≤ 2 ∧ D r.2 := by
 unfold Gq6
 have m0 := List.length_pos_iff.2 hs.m0
 have m1 := hs.m1
 refine (next_s h (by omega) (by omega)).bind fun r1 h1 => ?_
 refine Suc.idx h1.1 h1.2.1 fun x2 _ _ => ?_
 refine Suc.ite (fun _ => Suc.pure ⟨rfl, rfl, by simp, h1.2.2⟩) fun hc => ?_
 simp only [beq_iff_eq] at hc
 have s1 := hs.s1
 refine (next_s h1.2.2 (by omega) (by omega)).bind fun r4 h4 => ?_
 refine Suc.idx h4.1 h4.2.1 fun x5 hx5 _ => ?_
 have hx := hs.s0 x5 hx5
 refine (markPaper_s hF hs.p1 hx).bind fun r6 h6 => ?_
 have hp := hs.p0 r6 h6
 have l0 := List.length_pos_iff.2 hp.1
 have l1 := hp.2
 refine (next_s h4.2.2 (by omega) (by omega)).bind fun r7 h7 => ?_
 refine Suc.idx h7.1 h7.2.1 fun x8 _ _ => ?_
 refine (nextA h7.2.2).bind fun r9 h9 => ?_
 have hxp := hx.1
 refine Suc.app (by simp; omega) ?_
 refine (bool_s h9).bind fun r11 h11 => ?_
 exact Suc.ite (fun _ => Suc.pure ⟨rfl, rfl, by simp, h11⟩) fun _ => Suc.pure ⟨rfl, rfl, by simpa using hxp, h11⟩
def EOk (n : Int) (e : Gq49) : Prop := 0 ≤ e.Stamp.Time ∧ e.Stamp.Time < 5 * n + 20 ∧ 0 ≤ e.Stamp.Seq ∧ e.Stamp.Seq < n ∧ e.Pages.length ≤ 2
theorem all_snoc {α : Type} {P : α → Prop} {l : List α} {x : α} (h : ∀ e ∈ l, P e) (hx : P x) : ∀ e ∈ l ++ [x], P e := fun e he => by
 rcases List.mem_append.1 he with h1 | h1
 ·exact h e h1
 ·rw [List.mem_singleton.1 h1]; exact hx
theorem events_s {F : Nat} (hF : 50 < F) {d : GDice} {s : Gq55} {n : Int} (h : D d) (hs : UOk s) (h0 : 0 ≤ n) (hn : n ≤ 30) : Suc (Gq2 F d s n) fun r => (∀ e ∈ r.1, EOk n e) ∧ (r.1.length : Int) ≤ n ∧ D r.2 := by
 unfold Gq2
 have m0 := List.length_pos_iff.2 hs.m0
 have m1 := hs.m1
 have s1 := hs.s1
 refine loop4 (L := Gq3 F s n) (B := Gq4 F s n) (fun _ => rfl) (fun i l k a => D (GDice.mk l k) ∧ 0 ≤ i ∧ i ≤ n ∧ (a.length : Int) ≤ i ∧ ∀ e ∈ a, EOk n e) (fun i _ _ _ => n.toNat - i.toNat) _ ?_ F 0 d.L d.At [] ⟨h, by omega, by omega, by simp, by simp⟩ (by simp; omega)
 intro rec i l k a hI ih
 obtain ⟨q1, q2, q3, q4, q5⟩ := hI
 unfold Gq4
 refine Suc.ite (fun hc => ?_) fun hc => Suc.pure ⟨q5, by show (a.length : Int) ≤ n; omega, q1⟩
 simp only [decide_eq_true_eq] at hc
 have hi : i64 (i + 1) = i + 1 := i64_of (by omega) (by omega)
 refine (next_s q1 (by omega) (by omega)).bind fun r6 h6 => ?_
 have ht5 : i64 (5 * i) = 5 * i := i64_of (by omega) (by omega)
 have ht : i64 (5 * i + r6.1) = 5 * i + r6.1 := i64_of (by omega) (by omega)
 rw [ht5, ht, hi]
 refine (next_s h6.2.2 (by omega) (by omega)).bind fun r7 h7 => ?_
 refine Suc.ite (fun _ => ?_) fun _ => ?_
 ·refine (next_s h7.2.2 (by omega) (by omega)).bind fun r9 h9 => ?_
  refine Suc.idx h9.1 h9.2.1 fun x _ _ => ?_
  refine Suc.app (by simp; omega) ?_
  exact ih _ _ _ _ ⟨h9.2.2, by omega, by omega, by simp; omega, all_snoc q5 ⟨by show 0 ≤ 5 * i + r6.1; omega, by show 5 * i + r6.1 < 5 * n + 20; omega, q2, hc, by simp⟩⟩ (by omega)
 refine Suc.ite (fun _ => ?_) fun _ => ?_
 ·refine Suc.ite (fun hz => ?_) fun _ => ?_
  ·simp only [decide_eq_true_eq] at hz
   refine (next_s h7.2.2 (by omega) (by omega)).bind fun r9 h9 => ?_
   refine Suc.idx h9.1 h9.2.1 fun x _ _ => ?_
   refine (nextA h9.2.2).bind fun r16 h16 => ?_
   refine Suc.app (by simp; omega) ?_
   exact ih _ _ _ _ ⟨h16, by omega, by omega, by simp; omega, all_snoc q5 ⟨by show 0 ≤ 5 * i + r6.1; omega, by show 5 * i + r6.1 < 5 * n + 20; omega, q2, hc, by simp⟩⟩ (by omega)
  ·exact ih _ _ _ _ ⟨h7.2.2, by omega, by omega, by omega, q5⟩ (by omega)
 refine Suc.ite (fun _ => ?_) fun _ => ?_
 ·refine Suc.ite (fun hz => ?_) fun _ => ?_
  ·simp only [decide_eq_true_eq] at hz
   refine (next_s h7.2.2 (by omega) (by omega)).bind fun r9 h9 => ?_
   refine Suc.idx h9.1 h9.2.1 fun x hx _ => ?_
   refine Suc.app (by simp; omega) ?_
   exact ih _ _ _ _ ⟨h9.2.2, by omega, by omega, by simp; omega, all_snoc q5 (q5 x hx)⟩ (by omega)
  ·exact ih _ _ _ _ ⟨h7.2.2, by omega, by omega, by omega, q5⟩ (by omega)
 refine Suc.ite (fun _ => ?_) fun _ => ?_
 ·refine Suc.ite (fun hz => ?_) fun _ => ?_
  ·simp only [decide_eq_true_eq] at hz
   refine (next_s h7.2.2 (by omega) (by omega)).bind fun r9 h9 => ?_
   refine Suc.idx h9.1 h9.2.1 fun x hx _ => ?_
   refine Suc.app (by simp; omega) ?_
   exact ih _ _ _ _ ⟨h9.2.2, by omega, by omega, by simp; omega, all_snoc q5 (q5 x hx)⟩ (by omega)
  ·exact ih _ _ _ _ ⟨h7.2.2, by omega, by omega, by omega, q5⟩ (by omega)
 refine (mark_s (by omega) h7.2.2 hs).bind fun r28 h28 => ?_
 refine Suc.app (by simp; omega) ?_
 obtain ⟨w1, w2, w3, w4⟩ := h28
 exact ih _ _ _ _ ⟨w4, by omega, by omega, by simp; omega, all_snoc q5 ⟨by rw [w1]; omega, by rw [w1]; omega, by rw [w2]; omega, by rw [w2]; omega, w3⟩⟩ (by omega)
end Go.Sh
set_option linter.unusedVariables false
set_option linter.unusedSimpArgs false
namespace Go.Sh
open Go.L

theorem okE_good {x : Gq49} (h : okE x = true) : x.Stamp.good = true := by
 unfold okE at h; rw [Bool.and_eq_true] at h; exact h.1
theorem good_iff' {s : Gq56} : s.good = true ↔ 0 ≤ s.Time ∧ s.Time ≤ 1000000 ∧ 0 ≤ s.Source ∧ s.Source ≤ 99 ∧ 0 ≤ s.Seq ∧ s.Seq ≤ 9999 := by
 unfold Gq56.good; simp
theorem light_s (t : List Int) : q135q t = some (decide ((t.length : Int) ≤ 600)) := rfl
theorem ps_of {n : Int} {l : List Gq49} {F : Nat} (hF : 20 < F) (h : ∀ e ∈ l, EOk n e) : PS F l := fun e he => by
 have := (h e he).2.2.2.2
 exact ⟨by omega, by omega⟩
theorem start_s {t : List Int} {n : Int} (hl : (t.length : Int) ≤ 600) (h0 : 0 ≤ n) (hn : n ≤ 30) {F : Nat} (hF : 50 < F) {R : Type} {k : Gq55 × GDice → List Gq49 × GDice → Option R} {Q : R → Prop} (hk : ∀ r5 r6, (∀ e ∈ r6.1, EOk n e) → (r6.1.length : Int) ≤ n → D r6.2 → Suc (k r5 r6) Q) :
  Suc ((mark_Roll t).bind fun r4 => (Gq45 F r4).bind fun r5 => (Gq2 F r5.2 r5.1 n).bind fun r6 => k r5 r6) Q := by
 have e4 : mark_Roll t = some (GDice.mk t 0) := rfl
 rw [e4, Option.bind_some]
 refine (setup_s (by omega) (d := GDice.mk t 0) ⟨by simp, by simp; omega⟩).bind fun r5 h5 => ?_
 exact (events_s hF h5.2 h5.1 h0 hn).bind fun r6 h6 => hk r5 r6 h6.1 h6.2.1 h6.2.2
theorem suc_true {x : Option Bool} (h : Suc x fun r => r = true) : x = some true := by
 obtain ⟨r, h1, h2⟩ := h; rw [h1, h2]
theorem heavy_s {F : Nat} (hF : 20 < F) : Suc ((q95q F).bind fun r3 => some r3) fun r => r = true := by
 rw [sane_s hF]; exact ⟨true, rfl, rfl⟩
end Go.Sh
set_option linter.unusedVariables false
set_option linter.unusedSimpArgs false
namespace Go.Sh
open Go.L

def kindB (e : Gq49) : Bool :=
 if e.Kind = 0 then decide (1 ≤ e.Stamp.Source) && (decide (0 ≤ e.Part) && (decide (e.Part ≤ 23) && (decide (-1 ≤ e.Value) && (decide (e.Value ≤ 40) && decide (e.Marker = 0)))))
 else if e.Kind = 1 then decide (e.Stamp.Source = 0) && (decide (e.Script = 0) && (decide (e.Part = 0) && (decide (e.Value = 0) && (decide (1 ≤ e.Marker) && (decide (e.Marker ≤ 99) && decide (e.Pages.length = 0))))))
 else if e.Kind = 2 then decide (e.Stamp.Source = 0) && (decide (e.Value = 0) && (decide (e.Marker = 0) && (decide (-1 ≤ e.Part) && (decide (e.Part ≤ 23) && decide (e.Pages.length = 0)))))
 else false
theorem okE_kind (e : Gq49) : okE e = (e.Stamp.good && (decide (0 ≤ e.Script) && (decide (e.Script ≤ 319999) && (decide (e.Pages.length ≤ 12) && (e.Pages.all okP && kindB e))))) := rfl
theorem in_s (a b c : Int) : ref28_in a b c = some (decide (a ≥ b) && decide (a ≤ c)) := rfl
theorem len0 (l : List Int) : ((l.length : Int) == 0) = decide (l.length = 0) := by
 rw [Bool.eq_iff_iff]; simp
theorem beqd (a b : Int) : (a == b) = decide (a = b) := by rw [Bool.eq_iff_iff]; simp
theorem refValid_loop {e : Gq49} (hb : e.Pages.length < 1000000) : ∀ (s p : List Int) (n : Nat), e.Pages = p ++ s → s.length < n → q47q e n (p.length : Int) = some (s.all okP && kindB e) := by
 intro s
 induction s with
 | nil => intro p n hl hn; cases n with
  | zero => omega
  | succ n =>
   have : e.Pages.length = p.length := by rw [hl]; simp
   have d1 : decide ((p.length : Int) < (e.Pages.length : Int)) = false := by simp [this]
   simp only [q47q, q79q, d1, Bool.false_eq_true, if_false, List.all_nil, Bool.true_and, in_s, Option.bind_some, kindB, len0, beqd, decide_eq_true_eq]
   by_cases h0 : e.Kind = 0
   ·simp only [h0, if_true]
    by_cases c1 : 1 ≤ e.Stamp.Source
    ·by_cases c2 : 0 ≤ e.Part
     ·by_cases c3 : e.Part ≤ 23
      ·by_cases c4 : -1 ≤ e.Value
       ·by_cases c5 : e.Value ≤ 40
        ·simp [c1, c2, c3, c4, c5]
        ·simp [c1, c2, c3, c4, c5]
       ·simp [c1, c2, c3, c4]
      ·simp [c1, c2, c3]
     ·simp [c1, c2]
    ·simp [c1]
   ·by_cases h1 : e.Kind = 1
    ·simp only [h1, if_true, show ¬ ((1 : Int) = 0) by omega, if_false]
     by_cases c1 : e.Stamp.Source = 0
     ·by_cases c2 : e.Script = 0
      ·by_cases c3 : e.Part = 0
       ·by_cases c4 : e.Value = 0
        ·by_cases c5 : 1 ≤ e.Marker
         ·by_cases c6 : e.Marker ≤ 99
          ·simp [c1, c2, c3, c4, c5, c6]
          ·simp [c1, c2, c3, c4, c5, c6]
         ·simp [c1, c2, c3, c4, c5]
        ·simp [c1, c2, c3, c4]
       ·simp [c1, c2, c3]
      ·simp [c1, c2]
     ·simp [c1]
    ·by_cases h2 : e.Kind = 2
     ·simp only [h2, if_true, show ¬ ((2 : Int) = 0) by omega, show ¬ ((2 : Int) = 1) by omega, if_false]
      by_cases c1 : e.Stamp.Source = 0
      ·by_cases c2 : e.Value = 0
       ·by_cases c3 : e.Marker = 0
        ·by_cases c4 : -1 ≤ e.Part
         ·by_cases c5 : e.Part ≤ 23
          ·simp [c1, c2, c3, c4, c5]
          ·simp [c1, c2, c3, c4, c5]
         ·simp [c1, c2, c3, c4]
        ·simp [c1, c2, c3]
       ·simp [c1, c2]
      ·simp [c1]
     ·simp only [h0, h1, h2, if_false]
 | cons x s ih => intro p n hl hn; cases n with
  | zero => omega
  | succ n =>
   have hlen : p.length < 1000000 := by rw [hl] at hb; simp at hb; omega
   have d1 : decide ((p.length : Int) < (e.Pages.length : Int)) = true := by rw [hl]; exact dlt p x s
   have i1 : idx e.Pages (p.length : Int) = some x := by rw [hl]; exact idx_at p x s
   have hx : (decide (x ≥ 0) && decide (x ≤ 1152921504606846976)) = okP x := rfl
   simp only [q47q, q79q, d1, if_true, i1, Option.bind_some, in_s, List.all_cons, hx]
   cases ho : okP x with
   | false => simp
   | true =>
    simp only [Bool.not_true, Bool.false_eq_true, if_false, Bool.true_and]
    rw [nxt p x (by omega)]
    exact ih (p ++ [x]) n (by rw [hl]; simp) (by simpa using hn)
theorem refValidE_s {F : Nat} (hF : 20 < F) (e : Gq49) : q108q F e = some (okE e) := by
 unfold q108q
 rw [okE_kind, refValid_s, in_s]
 simp only [Option.bind_some]
 cases e.Stamp.good with
 | false => simp
 | true =>
  simp only [Bool.not_true, Bool.false_eq_true, if_false, Bool.true_and]
  by_cases h1 : 0 ≤ e.Script
  ·by_cases h2 : e.Script ≤ 319999
   ·by_cases h3 : e.Pages.length ≤ 12
    ·have hd : decide ((e.Pages.length : Int) > 12) = false := by simp; omega
     have := refValid_loop (e := e) (by omega) e.Pages [] F rfl (by omega)
     simp only [List.length_nil, Int.ofNat_zero] at this
     simp only [h1, h2, h3, hd, decide_true, ge_iff_le, Bool.and_self, Bool.not_true, Bool.false_eq_true, if_false, Option.bind_some, Bool.true_and]
     exact this
    ·have hd : decide ((e.Pages.length : Int) > 12) = true := by simp; omega
     simp [h1, h2, h3, hd]
   ·simp [h1, h2]
  ·simp [h1]
theorem refBefore_s (a b : Gq49) : q77q a b = some (ltB a b) := by
 unfold q77q q136q ltB
 have := cmpSt_lt (x := a.Stamp) (y := b.Stamp)
 by_cases h1 : a.Stamp.Time = b.Stamp.Time
 ·by_cases h2 : a.Stamp.Source = b.Stamp.Source
  ·simp only [h1, h2, bne_self_eq_false, Bool.false_eq_true, if_false, Option.bind_some]
   congr 1; rw [decide_eq_decide, this]; omega
  ·have e2 : (a.Stamp.Source != b.Stamp.Source) = true := by simp [h2]
   simp only [h1, e2, bne_self_eq_false, Bool.false_eq_true, if_false, if_true, Option.bind_some]
   congr 1; rw [decide_eq_decide, this]; omega
 ·have e2 : (a.Stamp.Time != b.Stamp.Time) = true := by simp [h1]
  simp only [e2, if_true, Option.bind_some]
  congr 1; rw [decide_eq_decide, this]; omega
theorem grp_skip {p : List Gq49} {x : Gq49} {k : Int × Int} (h : okE x = false ∨ k ≠ idE x) : grpOf (p ++ [x]) k = grpOf p k := by
 unfold grpOf
 rw [fstOf_snoc]
 cases hf : fstOf p k with
 | none =>
  have : ¬ (okE x = true ∧ idE x = k) := fun hh => by
   rcases h with h | h
   ·rw [h] at hh; cases hh.1
   ·exact h hh.2.symm
  simp [this]
 | some i =>
  obtain ⟨e, q1, q2, q3⟩ := fstOf_some hf
  have hi : i < p.length := (List.getElem?_eq_some_iff.1 q1).1
  have hf2 : (okE x && (decide (idE x = idE e) && decide (x ≠ e))) = false := by
   rcases h with h | h
   ·rw [h]; rfl
   ·have : idE x ≠ idE e := by rw [q3]; exact Ne.symm h
    simp [this]
  simp only [List.getElem?_append_left hi, q1, dispB_snoc, hf2, Bool.or_false]
theorem grp_new {p : List Gq49} {x : Gq49} (hv : okE x = true) (hgp : grpOf p (idE x) = .none) : grpOf (p ++ [x]) (idE x) = some ⟨p.length, false⟩ := by
 have hf : fstOf p (idE x) = .none := by
  cases hf : fstOf p (idE x) with
  | none => rfl
  | some i =>
   obtain ⟨e, q1, q2, q3⟩ := fstOf_some hf
   unfold grpOf at hgp; rw [hf] at hgp; simp [q1] at hgp
 have hnone : ∀ e' ∈ p, okE e' = true → idE e' ≠ idE x := fun e' he' ho hi => by
  have := List.findIdx?_eq_none_iff.1 hf e' he'
  simp [ho, hi] at this
 unfold grpOf
 rw [fstOf_snoc, hf]
 simp only [hv, and_self, if_true, List.getElem?_concat_length, dispB_snoc]
 have : dispB p x = false := by
  unfold dispB
  rw [List.any_eq_false]
  intro e' he'
  by_cases ho : okE e' = true
  ·simp [ho, hnone e' he' ho]
  ·simp [ho]
 simp [this]
theorem grp_old {p : List Gq49} {x e : Gq49} {i : Nat} (hv : okE x = true) (q1 : p[i]? = some e) (q3 : idE e = idE x) (q4 : fstOf p (idE x) = some i) : grpOf (p ++ [x]) (idE x) = some ⟨i, dispB p e || decide (x ≠ e)⟩ := by
 have hi : i < p.length := (List.getElem?_eq_some_iff.1 q1).1
 unfold grpOf
 rw [fstOf_snoc, q4]
 simp only [List.getElem?_append_left hi, q1, dispB_snoc, hv, q3, decide_true, Bool.true_and]
def badOf (g : q0q) : Option Bool := if g.disputed = true then some true else .none
theorem refDisp_loop {F : Nat} (hF : 20 < F) {l : List Gq49} (hp : PS F l) (hb : l.length < 1000000) : ∀ (s p : List Gq49) (n : Nat) (m : List ((Int × Int) × Int)) (b : List ((Int × Int) × Bool)), l = p ++ s → s.length < n → (∀ k, mget m k = (grpOf p k).map (·.first)) → (∀ k, mget b k = (grpOf p k).bind badOf) →
  ∃ m' b', q24q F l n (p.length : Int) m b = some (m', b') ∧ (∀ k, mget m' k = (grpOf l k).map (·.first)) ∧ ∀ k, mget b' k = (grpOf l k).bind badOf := by
 intro s
 induction s with
 | nil => intro p n m b hl hn hg hg2; cases n with
  | zero => omega
  | succ n =>
   have : l = p := by simpa using hl
   subst this
   exact ⟨m, b, by simp [q24q, q43q], hg, hg2⟩
 | cons x s ih => intro p n m b hl hn hg hg2; cases n with
  | zero => omega
  | succ n =>
   have hlen : p.length < 1000000 := by rw [hl] at hb; simp at hb; omega
   have d1 : decide ((p.length : Int) < (l.length : Int)) = true := by rw [hl]; exact dlt p x s
   have i1 : idx l (p.length : Int) = some x := by rw [hl]; exact idx_at p x s
   have hlp : l = (p ++ [x]) ++ s := by rw [hl]; simp
   simp only [q24q, q43q, d1, if_true, i1, Option.bind_some, refValidE_s hF]
   rw [nxt p x (by omega)]
   cases hv : okE x with
   | false =>
    simp only [Bool.not_false, if_true]
    exact ih (p ++ [x]) n m b hlp (by simpa using hn) (fun k => by rw [hg k, grp_skip (.inl hv)]) (fun k => by rw [hg2 k, grp_skip (.inl hv)])
   | true =>
    have hid : (x.Stamp.Source, x.Stamp.Seq) = idE x := rfl
    simp only [Bool.not_true, Bool.false_eq_true, if_false, hid, hg (idE x)]
    cases hgp : grpOf p (idE x) with
    | none =>
     simp only [Option.map_none, Option.isSome_none, Bool.not_false, if_true]
     refine ih (p ++ [x]) n _ b hlp (by simpa using hn) (fun k => ?_) (fun k => ?_)
     ·rw [mget_mput]
      by_cases hk : k = idE x
      ·rw [if_pos hk, hk, grp_new hv hgp]; rfl
      ·rw [if_neg hk, hg k, grp_skip (.inr hk)]
     ·by_cases hk : k = idE x
      ·rw [hg2 k, hk, hgp, grp_new hv hgp]; rfl
      ·rw [hg2 k, grp_skip (.inr hk)]
    | some g =>
     obtain ⟨i, e, rfl, q1, q2, q3, q4⟩ := grpOf_some hgp
     have hi : i < p.length := (List.getElem?_eq_some_iff.1 q1).1
     have il : idx l (i : Int) = some e := by
      rw [idx_nat, hl, List.getElem?_append_left hi]; exact q1
     have hme : e ∈ l := by rw [hl]; exact List.mem_append_left _ (List.mem_of_getElem? q1)
     simp only [Option.map_some, Option.isSome_some, Bool.not_true, Bool.false_eq_true, if_false, Option.getD_some, il, Option.bind_some, refSame_s (hp e hme).1 (hp e hme).2]
     have hgx := grp_old hv q1 q3 q4
     by_cases hxe : e = x
     ·subst hxe
      simp only [decide_true, Bool.not_true, Bool.false_eq_true, if_false]
      have hall : ∀ k, grpOf (p ++ [e]) k = grpOf p k := fun k => by
       by_cases hk : k = idE e
       ·rw [hk, hgx, hgp]; simp
       ·exact grp_skip (.inr hk)
      exact ih (p ++ [e]) n m b hlp (by simpa using hn) (fun k => by rw [hg k, hall k]) (fun k => by rw [hg2 k, hall k])
     ·simp only [hxe, decide_false, Bool.not_false, if_true]
      refine ih (p ++ [x]) n m _ hlp (by simpa using hn) (fun k => ?_) (fun k => ?_)
      ·by_cases hk : k = idE x
       ·rw [hg k, hk, hgx, hgp]; rfl
       ·rw [hg k, grp_skip (.inr hk)]
      ·rw [mget_mput]
       by_cases hk : k = idE x
       ·rw [if_pos hk, hk, hgx]; simp [badOf, Ne.symm hxe]
       ·rw [if_neg hk, hg2 k, grp_skip (.inr hk)]
theorem refDisp_s {F : Nat} (hF : 20 < F) {l : List Gq49} (hp : PS F l) (hb : l.length < 1000000) (hFl : l.length < F) : ∃ m b, q94q F l = some (m, b) ∧ (∀ k, mget m k = (grpOf l k).map (·.first)) ∧ ∀ k, mget b k = (grpOf l k).bind badOf :=
 refDisp_loop hF hp hb l [] F [] [] rfl hFl (fun k => by simp [mget, grpOf, fstOf]) (fun k => by simp [mget, grpOf, fstOf])
def leB (a b : Gq49) : Bool := !ltB b a
theorem merge_loop {A B : List Gq49} (hb : A.length + B.length < 1000000) : ∀ (n : Nat) (p s q s' acc : List Gq49), A = p ++ s → B = q ++ s' → s.length + s'.length < n → acc.length = p.length + q.length →
  q38q A B n (p.length : Int) (q.length : Int) acc = some (acc ++ List.merge s s' leB) := by
 intro n
 induction n with
 | zero => intro p s q s' acc _ _ hn; omega
 | succ n ih =>
  intro p s q s' acc hA hB hn ha
  have hAl : A.length = p.length + s.length := by rw [hA]; simp
  have hBl : B.length = q.length + s'.length := by rw [hB]; simp
  simp only [q38q, q111q]
  have left : ∀ x r, s = x :: r → (acc ++ [x]) ++ List.merge r s' leB = acc ++ List.merge s s' leB → ((idx A (p.length : Int)).bind fun x23 => (app acc [x23]).bind fun v24 => q38q A B n (i64 ((p.length : Int) + 1)) (q.length : Int) v24) = some (acc ++ List.merge s s' leB) := fun x r hs hm => by
   subst hs
   simp only [List.length_cons] at *
   have i1 : idx A (p.length : Int) = some x := by rw [hA]; exact idx_at p x r
   rw [i1, Option.bind_some, app_of (by simp; omega), Option.bind_some, nxt p x (by omega), ih (p ++ [x]) r q s' (acc ++ [x]) (by rw [hA]; simp) hB (by omega) (by simp; omega), hm]
  have right : ∀ y r, s' = y :: r → (acc ++ [y]) ++ List.merge s r leB = acc ++ List.merge s s' leB → ((idx B (q.length : Int)).bind fun x25 => (app acc [x25]).bind fun v26 => q38q A B n (p.length : Int) (i64 ((q.length : Int) + 1)) v26) = some (acc ++ List.merge s s' leB) := fun y r hs hm => by
   subst hs
   simp only [List.length_cons] at *
   have i1 : idx B (q.length : Int) = some y := by rw [hB]; exact idx_at q y r
   rw [i1, Option.bind_some, app_of (by simp; omega), Option.bind_some, nxt q y (by omega), ih p s (q ++ [y]) r (acc ++ [y]) hA (by rw [hB]; simp) (by omega) (by simp; omega), hm]
  cases s with
  | nil =>
   have c1 : decide ((p.length : Int) < (A.length : Int)) = false := by simp [hAl]
   cases s' with
   | nil =>
    have c2 : decide ((q.length : Int) < (B.length : Int)) = false := by simp [hBl]
    simp only [c1, c2, Bool.or_self, Bool.false_eq_true, if_false]
    simp
   | cons y r =>
    have c2 : decide ((q.length : Int) < (B.length : Int)) = true := by simp [hBl]; omega
    have c3 : ((q.length : Int) == (B.length : Int)) = false := by simp [hBl]; omega
    simp only [c1, c2, c3, Bool.false_or, if_true, Bool.false_eq_true, if_false, Option.bind_some]
    exact right y r rfl (by simp)
  | cons x r0 =>
   have c1 : decide ((p.length : Int) < (A.length : Int)) = true := by simp [hAl]; omega
   cases s' with
   | nil =>
    have c3 : ((q.length : Int) == (B.length : Int)) = true := by simp [hBl]
    simp only [c1, c3, Bool.true_or, if_true, Option.bind_some]
    exact left x r0 rfl (by simp)
   | cons y r =>
    have c3 : ((q.length : Int) == (B.length : Int)) = false := by simp [hBl]; omega
    have i1 : idx A (p.length : Int) = some x := by rw [hA]; exact idx_at p x r0
    have i2 : idx B (q.length : Int) = some y := by rw [hB]; exact idx_at q y r
    have hw : ((idx B (q.length : Int)).bind fun x19 => (idx A (p.length : Int)).bind fun x20 => (q77q x19 x20).bind fun r21 => some (!r21)) = some (leB x y) := by
     rw [i2, Option.bind_some, i1, Option.bind_some, refBefore_s]; rfl
    simp only [c1, c3, Bool.true_or, if_true, Bool.false_eq_true, if_false, hw, Option.bind_some]
    cases hle : leB x y with
    | true =>
     simp only [if_true]
     exact left x r0 rfl (by rw [List.merge, if_pos hle]; simp)
    | false =>
     simp only [Bool.false_eq_true, if_false]
     exact right y r rfl (by rw [List.merge, if_neg (by simp [hle])]; simp)
theorem merge_isort {a b l : List Gq49} (hc : Cmp l) (hp : (a ++ b).Perm l) : List.merge (isort ltB a) (isort ltB b) leB = isort ltB l := by
 have hcab : Cmp (a ++ b) := hc.perm hp.symm
 have hca : Cmp a := (List.pairwise_append.1 hcab).1
 have hcb : Cmp b := (List.pairwise_append.1 hcab).2.1
 have le_of : ∀ {x y : Gq49}, ltE x y → leB x y = true := fun {x y} h => by
  unfold leB ltB
  have : ¬ ltE y x := fun h' => ltE_irr x (ltE_trans h h')
  simpa [ltE] using this
 have hperm : (List.merge (isort ltB a) (isort ltB b) leB).Perm l := (List.merge_perm_append leB).trans ((List.Perm.append perm_isort perm_isort).trans hp)
 have hsorted : (List.merge (isort ltB a) (isort ltB b) leB).Pairwise fun x y => leB x y = true :=
  List.pairwise_merge (fun x y z h1 h2 => by
    unfold leB ltB at *
    simp only [Bool.not_eq_true', decide_eq_false_iff_not] at *
    exact ltE_ntrans (a := z) (b := y) (c := x) h2 h1)
   (fun x y => by
    unfold leB ltB
    by_cases h : cmpSt y.Stamp x.Stamp < 0
    ·have : ¬ cmpSt x.Stamp y.Stamp < 0 := fun h' => ltE_irr x (ltE_trans (b := y) h' h)
     simp [this]
    ·simp [h]) _ _ (List.Pairwise.imp (fun h => le_of h) (isortE hca)) (List.Pairwise.imp (fun h => le_of h) (isortE hcb))
 have hcm : Cmp (List.merge (isort ltB a) (isort ltB b) leB) := hc.perm hperm.symm
 have hstrict : (List.merge (isort ltB a) (isort ltB b) leB).Pairwise ltE := List.Pairwise.imp₂ (fun x y h1 h2 => by
  rcases h2 with h2 | h2
  ·exact h2
  ·unfold leB ltB at h1
   simp only [Bool.not_eq_true', decide_eq_false_iff_not] at h1
   exact absurd h2 h1) hsorted hcm
 exact sorted_ext ltE_irr (fun _ _ _ => ltE_trans) hstrict (isortE hc) fun e => by rw [hperm.mem_iff, (perm_isort (lt := ltB) (l := l)).mem_iff]
theorem refSort_s : ∀ (F : Nat) {l : List Gq49}, Cmp l → l.length < 1000000 → l.length + 1 < F → q98q F l = some (isort ltB l)
 | 0, l, _, _, hF => by omega
 | F + 1, l, hc, hb, hF => by
  unfold q98q
  by_cases h2 : l.length < 2
  ·have d1 : decide ((l.length : Int) < 2) = true := by simp; omega
   simp only [d1, if_true]
   rw [app_of (by simp; omega)]
   have : isort ltB l = l := by
    match l, h2 with
    | [], _ => rfl
    | [x], _ => rfl
   rw [this]; rfl
  ·have d1 : decide ((l.length : Int) < 2) = false := by simp; omega
   simp only [d1, Bool.false_eq_true, if_false]
   have hq : quo .i64 (l.length : Int) 2 = some ((l.length / 2 : Nat) : Int) := by
    unfold quo
    rw [if_neg (by omega)]
    have e1 : ((l.length : Int).tdiv 2) = ((l.length / 2 : Nat) : Int) := by
     rw [Int.tdiv_eq_ediv_of_nonneg (by omega)]; omega
    rw [e1]
    exact congrArg some (i64_of (by omega) (by omega))
   have hle : l.length / 2 ≤ l.length := by omega
   rw [hq]
   simp only [Option.bind_some]
   rw [slc_take hle, slc_drop hle]
   simp only [Option.bind_some]
   have hpm : (l.take (l.length / 2) ++ l.drop (l.length / 2)).Perm l := by rw [List.take_append_drop]
   have hcab : Cmp (l.take (l.length / 2) ++ l.drop (l.length / 2)) := hc.perm hpm.symm
   have hl1 : (l.take (l.length / 2)).length = l.length / 2 := by simp; omega
   have hl2 : (l.drop (l.length / 2)).length = l.length - l.length / 2 := by simp
   rw [refSort_s F (List.pairwise_append.1 hcab).1 (by omega) (by omega), Option.bind_some, refSort_s F (List.pairwise_append.1 hcab).2.1 (by omega) (by omega), Option.bind_some]
   have p1 := (perm_isort (lt := ltB) (l := l.take (l.length / 2))).length_eq
   have p2 := (perm_isort (lt := ltB) (l := l.drop (l.length / 2))).length_eq
   have := merge_loop (A := isort ltB (l.take (l.length / 2))) (B := isort ltB (l.drop (l.length / 2))) (by omega) F [] _ [] _ [] rfl rfl (by omega) rfl
   simp only [List.length_nil, Int.ofNat_zero, List.nil_append] at this
   rw [this, merge_isort hc hpm]
end Go.Sh
set_option linter.unusedVariables false
set_option linter.unusedSimpArgs false
namespace Go.Sh
open Go.L

theorem refCanon_loop {F : Nat} {l : List Gq49} {m : List ((Int × Int) × Int)} {b : List ((Int × Int) × Bool)} (hb : l.length < 1000000) (hFl : l.length + 1 < F) (hp : ∀ e ∈ l, e.Pages.length < 10000000) (hm : ∀ k, mget m k = (grpOf l k).map (·.first)) (hbd : ∀ k, mget b k = (grpOf l k).bind badOf) :
  ∀ (s p : List Gq49) (n : Nat) (acc : List Gq49), l = p ++ s → s.length < n → acc.Nodup → acc.length ≤ p.length → (∀ e, e ∈ acc ↔ e ∈ p ∧ goodB l e = true) → q8q F l (m, b) n (p.length : Int) acc = some (canC l) := by
 intro s
 induction s with
 | nil => intro p n acc hl hn hd ha hg; cases n with
  | zero => omega
  | succ n =>
   have hlp : l = p := by simpa using hl
   have d1 : decide ((p.length : Int) < (l.length : Int)) = false := by rw [hlp]; simp
   have hcc : Cmp acc := cmp_of (l := l) hd fun e he => ⟨by rw [hlp]; exact ((hg e).1 he).1, ((hg e).1 he).2⟩
   have hperm : acc.Perm (cnt l) := (List.perm_ext_iff_of_nodup hd nodup_ddp).2 fun e => by rw [hg e]; rw [← hlp]; exact mem_cnt.symm
   have hal : acc.length ≤ l.length := by rw [hlp]; exact ha
   simp only [q8q, q35q, d1, Bool.false_eq_true, if_false]
   unfold canC
   rw [← finC_perm hperm hcc]
   unfold finC
   by_cases h : 2000 < acc.length
   ·have : decide ((acc.length : Int) > 2000) = true := by simp; omega
    simp [this, h]
   ·have : decide ((acc.length : Int) > 2000) = false := by simp; omega
    simp only [this, Bool.false_eq_true, if_false, h]
    rw [refSort_s F hcc (by omega) (by omega)]; rfl
 | cons x s ih => intro p n acc hl hn hd ha hg; cases n with
  | zero => omega
  | succ n =>
   have hlen : p.length < 1000000 := by rw [hl] at hb; simp at hb; omega
   have d1 : decide ((p.length : Int) < (l.length : Int)) = true := by rw [hl]; exact dlt p x s
   have i1 : idx l (p.length : Int) = some x := by rw [hl]; exact idx_at p x s
   have hlp : l = (p ++ [x]) ++ s := by rw [hl]; simp
   have hxl : x ∈ l := by rw [hl]; simp
   have hxi : l[p.length]? = some x := by rw [hl]; simp
   have hid : (x.Stamp.Source, x.Stamp.Seq) = idE x := rfl
   have hplt : p.length < l.length := by rw [hl]; simp
   have hpx := hp x hxl
   simp only [q8q, q35q, d1, if_true, i1, Option.bind_some, hid, hm, hbd]
   rw [nxt p x (by omega), app_of (xs := []) (ys := x.Pages) (by simp; omega)]
   simp only [Option.bind_some, List.nil_append]
   rw [app_of (by simp; omega), Option.bind_some]
   have skip : (goodB l x = true → x ∈ p) → q8q F l (m, b) n ((p ++ [x]).length : Int) acc = some (canC l) := fun hx => by
    refine ih (p ++ [x]) n acc hlp (by simpa using hn) hd (by simp; omega) fun e => ?_
    rw [hg e, List.mem_append, List.mem_singleton]
    constructor
    ·exact fun ⟨h1, h2⟩ => ⟨.inl h1, h2⟩
    ·rintro ⟨h1 | rfl, h2⟩
     ·exact ⟨h1, h2⟩
     ·exact ⟨hx h2, h2⟩
   cases hgp : grpOf l (idE x) with
   | none =>
    simp only [Option.map_none, Option.isSome_none, Bool.false_and, Bool.false_eq_true, if_false]
    refine skip fun hx => ?_
    obtain ⟨i, e0, q1, q2, _, _⟩ := fst_of_mem hxl (good_iff.1 hx).1
    unfold grpOf at hgp; rw [q1] at hgp; simp [q2] at hgp
   | some g =>
    obtain ⟨i, e0, rfl, q1, q2, q3, q4⟩ := grpOf_some hgp
    simp only [Option.map_some, Option.isSome_some, Bool.true_and, Option.getD_some, Option.bind_some, badOf]
    have hfirst := (List.findIdx?_eq_some_iff_getElem.1 q4)
    have hil : i < l.length := hfirst.1
    by_cases hi : i = p.length
    ·subst hi
     have : e0 = x := by rw [hxi] at q1; exact (Option.some.inj q1).symm
     subst this
     cases hdp : dispB l e0 with
     | true =>
      simp only [beq_self_eq_true, if_true, Option.getD_some, Bool.not_true, Bool.and_false, Bool.false_eq_true, if_false]
      refine skip fun hx => ?_
      unfold goodB at hx; rw [hdp] at hx; simp at hx
     | false =>
      simp only [beq_self_eq_true, if_true, Option.getD_none, Bool.not_false, Bool.and_self, Bool.false_eq_true, if_false]
      have hgood : goodB l e0 = true := by unfold goodB; rw [q2, hdp]; rfl
      have hnp : e0 ∉ p := fun hm0 => by
       obtain ⟨j, hj, hje⟩ := List.getElem_of_mem hm0
       have := hfirst.2.2 j hj
       have hlj : l[j] = e0 := by
        have : l[j]? = some e0 := by rw [hl, List.getElem?_append_left hj]; simp [hj, hje]
        exact (List.getElem?_eq_some_iff.1 this).2
       rw [hlj] at this
       simp [q2] at this
      refine ih (p ++ [e0]) n (acc ++ [e0]) hlp (by simpa using hn) ?_ (by simp; omega) fun e => ?_
      ·rw [List.nodup_append]
       refine ⟨hd, by simp, fun a ha' b hb' hab => ?_⟩
       rw [List.mem_singleton.1 hb'] at hab
       exact hnp (hab ▸ ((hg a).1 ha').1)
      ·rw [List.mem_append, hg e, List.mem_append, List.mem_singleton]
       constructor
       ·rintro (⟨h1, h2⟩ | rfl)
        ·exact ⟨.inl h1, h2⟩
        ·exact ⟨.inr rfl, hgood⟩
       ·rintro ⟨h1 | h1, h2⟩
        ·exact .inl ⟨h1, h2⟩
        ·exact .inr h1
    ·have c1 : ((i : Int) == (p.length : Int)) = false := by simp; omega
     simp only [c1, Bool.false_and, Bool.false_eq_true, if_false]
     refine skip fun hx => ?_
     have hgi := good_iff.1 hx
     have e0x : e0 = x := hgi.2 e0 (List.mem_of_getElem? q1) q2 q3
     have hip : i < p.length := by
      rcases Nat.lt_or_ge p.length i with h | h
      ·exfalso
       have := hfirst.2.2 p.length h
       have hlj : l[p.length] = x := (List.getElem?_eq_some_iff.1 hxi).2
       rw [hlj] at this
       simp [hgi.1] at this
      ·omega
     have : p[i]? = some e0 := by rw [hl, List.getElem?_append_left hip] at q1; exact q1
     rw [← e0x]; exact List.mem_of_getElem? this
theorem refCanon_s {F : Nat} (hF : 20 < F) {l : List Gq49} (hp : PS F l) (hb : l.length < 1000000) (hFl : l.length + 1 < F) : q59q F l = some (canC l) := by
 obtain ⟨m, b, h1, h2, h3⟩ := refDisp_s hF hp hb (by omega)
 unfold q59q
 rw [h1, Option.bind_some]
 exact refCanon_loop hb hFl (fun e he => (hp e he).1) h2 h3 l [] F [] rfl (by omega) (by simp) (by simp) (by simp)
theorem refKnown_s {F : Nat} (hF : 20 < F) {l : List Gq49} (hp : PS F l) (hb : l.length < 1000000) (hFl : l.length + 1 < F) (t : Int) : q118q F l t = some (canC (l.take (kn t l))) := by
 unfold q118q
 have e1 : max 0 (min t (l.length : Int)) = (kn t l : Int) := by unfold kn; omega
 have hle := kn_le t l
 rw [e1, slc_take hle, Option.bind_some, refCanon_s hF (hp.sub fun e he => List.mem_of_mem_take he) (by simp; omega) (by simp; omega)]; rfl
theorem refUntil_loop {l : List Gq49} {t : Int} (hb : l.length < 1000000) : ∀ (s p : List Gq49) (n : Nat) (acc : List Gq49), l = p ++ s → s.length < n → acc.length ≤ p.length → q46q l t n (p.length : Int) acc = some (acc ++ s.filter fun e => decide (e.Stamp.Time ≤ t)) := by
 intro s
 induction s with
 | nil => intro p n acc hl hn ha; cases n with
  | zero => omega
  | succ n =>
   have : l = p := by simpa using hl
   subst this
   simp [q46q, q78q]
 | cons x s ih => intro p n acc hl hn ha; cases n with
  | zero => omega
  | succ n =>
   have hlen : p.length < 1000000 := by rw [hl] at hb; simp at hb; omega
   have d1 : decide ((p.length : Int) < (l.length : Int)) = true := by rw [hl]; exact dlt p x s
   have i1 : idx l (p.length : Int) = some x := by rw [hl]; exact idx_at p x s
   simp only [q46q, q78q, d1, if_true, i1, Option.bind_some]
   rw [nxt p x (by omega)]
   by_cases h : x.Stamp.Time ≤ t
   ·simp only [h, decide_true, if_true]
    rw [app_of (by simp; omega), Option.bind_some, ih (p ++ [x]) n (acc ++ [x]) (by rw [hl]; simp) (by simpa using hn) (by simpa using ha)]
    simp [h]
   ·simp only [h, decide_false, Bool.false_eq_true, if_false]
    rw [ih (p ++ [x]) n acc (by rw [hl]; simp) (by simpa using hn) (by simp; omega)]
    simp [h]
theorem refUntil_s {F : Nat} {l : List Gq49} (hb : l.length < 1000000) (hFl : l.length < F) (t : Int) : q119q F l t = some (l.filter fun e => decide (e.Stamp.Time ≤ t)) := by
 unfold q119q
 exact refUntil_loop hb l [] F [] rfl hFl (by simp)
def inD (l : List Gq49) (k : Int × Int) : Prop := ∃ e ∈ l, okE e = true ∧ dispB l e = true ∧ idE e = k
theorem bad_iff {l : List Gq49} {b : List ((Int × Int) × Bool)} (hbd : ∀ k, mget b k = (grpOf l k).bind badOf) (k : Int × Int) : (mget b k).getD false = true ↔ inD l k := by
 rw [hbd k]
 constructor
 ·intro h
  cases hgp : grpOf l k with
  | none => rw [hgp] at h; simp at h
  | some g =>
   obtain ⟨i, e0, rfl, q1, q2, q3, q4⟩ := grpOf_some hgp
   rw [hgp] at h
   cases hd : dispB l e0 with
   | false => simp [badOf, hd] at h
   | true => exact ⟨e0, List.mem_of_getElem? q1, q2, hd, q3⟩
 ·rintro ⟨e, he, ho, hd, rfl⟩
  obtain ⟨i, e0, q1, q2, q3, q4⟩ := fst_of_mem he ho
  have hd0 := disp_first he ho q4 hd
  have : grpOf l (idE e) = some ⟨i, true⟩ := by unfold grpOf; rw [q1]; simp [q2, hd0]
  rw [this]; simp [badOf]
theorem inD_range {l : List Gq49} {k : Int × Int} (h : inD l k) : 0 ≤ k.1 ∧ k.1 ≤ 99 ∧ 0 ≤ k.2 ∧ k.2 ≤ 9999 := by
 obtain ⟨e, _, ho, _, rfl⟩ := h
 have := good_iff'.1 (okE_good ho)
 unfold idE; simp only; omega
theorem pw_snoc {a : List (Int × Int)} {k : Int × Int} (h : a.Pairwise fun x y => ltP x y = true) (hk : ∀ x ∈ a, ltP x k = true) : (a ++ [k]).Pairwise fun x y => ltP x y = true := by
 rw [List.pairwise_append]
 exact ⟨h, by simp, fun x hx y hy => by rw [List.mem_singleton.1 hy]; exact hk x hx⟩
theorem refDisputed_s {F : Nat} (hF : 10010 < F) {l : List Gq49} (hp : PS F l) (hb : l.length < 1000000) (hFl : l.length < F) : q93q F l = some (dspL l) := by
 obtain ⟨m, b, h1, h2, h3⟩ := refDisp_s (by omega) hp hb hFl
 have hbad := bad_iff h3
 unfold q93q
 rw [h1, Option.bind_some]
 have key : Suc (q37q F (m, b) F 0 []) fun r => (r.Pairwise fun x y => ltP x y = true) ∧ ∀ k, k ∈ r ↔ inD l k := by
  refine loop2 (L := q37q F (m, b)) (B := q40q F (m, b)) (fun _ => rfl) (fun i a => 0 ≤ i ∧ i ≤ 100 ∧ (a.length : Int) ≤ 10000 * i ∧ (a.Pairwise fun x y => ltP x y = true) ∧ ∀ k, k ∈ a ↔ inD l k ∧ k.1 < i) (fun i _ => 100 - i.toNat) _ ?_ F 0 [] ⟨by omega, by omega, by simp, by simp, fun k => ⟨fun h => (by cases h), fun h => (by have := inD_range h.1; omega)⟩⟩ (by simp; omega)
  intro rec i a hI ih
  obtain ⟨q1, q2, q3, q4, q5⟩ := hI
  unfold q40q
  refine Suc.ite (fun hc => ?_) fun hc => ?_
  ·simp only [Bool.and_eq_true, decide_eq_true_eq] at hc
   refine loop2 (L := q65q rec (m, b) i) (B := q41q rec (m, b) i) (fun _ => rfl) (fun j a => 0 ≤ j ∧ j ≤ 10000 ∧ (a.length : Int) ≤ 10000 * i + j ∧ (a.Pairwise fun x y => ltP x y = true) ∧ ∀ k, k ∈ a ↔ inD l k ∧ (k.1 < i ∨ k.1 = i ∧ k.2 < j)) (fun j _ => 10000 - j.toNat) _ ?_ F 0 a ⟨by omega, by omega, by omega, q4, fun k => by
    rw [q5 k]
    constructor
    ·exact fun ⟨w1, w2⟩ => ⟨w1, .inl w2⟩
    ·rintro ⟨w1, w2 | w2⟩
     ·exact ⟨w1, w2⟩
     ·have := inD_range w1; omega⟩ (by simp; omega)
   intro rec2 j a hJ ih2
   obtain ⟨p1, p2, p3, p4, p5⟩ := hJ
   unfold q41q
   refine Suc.ite (fun hj => ?_) fun hj => ?_
   ·simp only [decide_eq_true_eq] at hj
    have hi : i64 (j + 1) = j + 1 := i64_of (by omega) (by omega)
    rw [hi]
    refine Suc.ite (fun hd => ?_) fun hd => ?_
    ·have hin := (hbad (i, j)).1 hd
     refine Suc.app (by simp; omega) ?_
     refine ih2 _ _ ⟨by omega, by omega, by simp; omega, pw_snoc p4 fun x hx => ?_, fun k => ?_⟩ (by omega)
     ·have := ((p5 x).1 hx).2
      unfold ltP; simp only [decide_eq_true_eq]; exact this
     ·rw [List.mem_append, p5 k, List.mem_singleton]
      constructor
      ·rintro (⟨w1, w2⟩ | rfl)
       ·exact ⟨w1, by omega⟩
       ·exact ⟨hin, .inr ⟨rfl, by show j < j + 1; omega⟩⟩
      ·rintro ⟨w1, w2⟩
       by_cases hkk : k = (i, j)
       ·exact .inr hkk
       ·refine .inl ⟨w1, ?_⟩
        obtain ⟨k1, k2⟩ := k
        simp only [Prod.mk.injEq] at hkk w2 ⊢
        omega
    ·have hin : ¬ inD l (i, j) := fun h => hd ((hbad (i, j)).2 h)
     refine ih2 _ _ ⟨by omega, by omega, by omega, p4, fun k => ?_⟩ (by omega)
     rw [p5 k]
     constructor
     ·exact fun ⟨w1, w2⟩ => ⟨w1, by omega⟩
     ·rintro ⟨w1, w2⟩
      refine ⟨w1, ?_⟩
      by_cases hkk : k = (i, j)
      ·exact absurd (hkk ▸ w1) hin
      ·obtain ⟨k1, k2⟩ := k
       simp only [Prod.mk.injEq] at hkk w2 ⊢
       omega
   ·simp only [decide_eq_true_eq] at hj
    have hi : i64 (i + 1) = i + 1 := i64_of (by omega) (by omega)
    rw [hi]
    refine ih _ _ ⟨by omega, by omega, by omega, p4, fun k => ?_⟩ (by omega)
    rw [p5 k]
    constructor
    ·exact fun ⟨w1, w2⟩ => ⟨w1, by omega⟩
    ·rintro ⟨w1, w2⟩
     have := inD_range w1
     exact ⟨w1, by omega⟩
  ·refine Suc.pure ⟨q4, fun k => ?_⟩
   rw [q5 k]
   refine ⟨fun h => h.1, fun h => ⟨h, ?_⟩⟩
   have hr := inD_range h
   by_cases hi : i ≤ 99
   ·exfalso
    simp only [hi, decide_true, Bool.true_and, decide_eq_true_eq] at hc
    have hb0 : b = [] := List.eq_nil_of_length_eq_zero (by have : ¬ ((b.length : Int) > 0) := hc; omega)
    have := (hbad k).2 h
    rw [hb0] at this
    simp [mget] at this
   ·omega
 obtain ⟨r, e1, e2, e3⟩ := key
 rw [e1]
 refine congrArg some (sorted_ext (R := fun a b => ltP a b = true) (fun a => by simp [ltP]) (fun a b c h1 h2 => by simp only [ltP, decide_eq_true_eq] at *; omega) e2 (isortP nodup_ddg) fun k => ?_)
 rw [e3 k]; exact mem_dspL.symm
theorem pairs_loop : ∀ (s s' p q : List (Int × Int)) (n : Nat), p.length = q.length → s.length = s'.length → (p ++ s).length < 10000000 → s.length < n → q44q (p ++ s) (q ++ s') n (p.length : Int) = some (decide (s = s')) := by
 intro s
 induction s with
 | nil => intro s' p q n hpq hs hb hn; cases n with
  | zero => omega
  | succ n =>
   have : s' = [] := List.eq_nil_of_length_eq_zero (by simpa using hs.symm)
   subst this
   simp only [q44q, q76q, dge, Bool.false_eq_true, if_false, decide_true]
 | cons x s ih => intro s' p q n hpq hs hb hn; cases n with
  | zero => omega
  | succ n =>
   cases s' with
   | nil => simp at hs
   | cons y s' =>
    have hl : p.length < 10000000 := by simp at hb; omega
    have i2 : idx (q ++ y :: s') (p.length : Int) = some y := by rw [hpq]; exact idx_at q y s'
    simp only [q44q, q76q, dlt, if_true, idx_at, i2, Option.bind_some]
    by_cases hxy : x = y
    ·subst hxy
     have := ih s' (p ++ [x]) (q ++ [x]) n (by simp [hpq]) (by simpa using hs) (by simpa using hb) (by simpa using hn)
     simp only [decide_true, Bool.not_true, Bool.false_eq_true, if_false]
     rw [nxt p x (by omega), snoc p, snoc q, this]
     simp
    ·simp [hxy]
theorem pairs_same {F : Nat} {a : List (Int × Int)} (hb : a.length < 10000000) (hF : a.length < F) : q117q F a a = some true := by
 unfold q117q
 simp only [bne_self_eq_false, Bool.false_eq_true, if_false]
 have := pairs_loop a a [] [] F rfl rfl (by simpa using hb) hF
 simpa using this
theorem ddg_len : ∀ (l : List (Int × Int)), (ddg l).length ≤ l.length
 | [] => by simp [ddg]
 | x :: s => by
  unfold ddg
  have := ddg_len s
  split <;> simp <;> omega
theorem dspL_len (l : List Gq49) : (dspL l).length ≤ l.length := by
 unfold dspL dspI
 rw [perm_isort.length_eq]
 refine Nat.le_trans (ddg_len _) ?_
 rw [List.length_map]; exact List.length_filter_le _ _
theorem mod_s {p : Int} {n : Nat} (h : 0 < n) (hb : n < 1000000) : Suc (mark_Mod p (n : Int)) fun r => 0 ≤ r ∧ r < (n : Int) := by
 unfold mark_Mod
 have h1 : rmd p (n : Int) = some (p.tmod n) := by unfold rmd; rw [if_neg (by omega)]
 have b1 := Int.tmod_lt_of_pos p (b := (n : Int)) (by omega)
 have b2 := Int.lt_tmod_of_pos p (b := (n : Int)) (by omega)
 rw [h1, Option.bind_some, i64_of (by omega) (by omega)]
 have h2 : rmd (p.tmod n + n) (n : Int) = some ((p.tmod n + n).tmod n) := by unfold rmd; rw [if_neg (by omega)]
 rw [h2, Option.bind_some]
 exact Suc.pure ⟨Int.tmod_nonneg _ (by omega), Int.tmod_lt_of_pos _ (by omega)⟩
def Big (F : Nat) (l : List Gq49) : Prop := PS F l ∧ l.length ≤ 100
theorem can_small {l : List Gq49} {F : Nat} (h : Big F l) : canC l = (canL l, 0) := canC_small (by have := h.2; omega)
theorem big_canL {F : Nat} {l : List Gq49} (h : Big F l) : Big F (canL l) := ⟨h.1.sub fun e he => (mem_canL.1 he).1, Nat.le_trans (canL_len l) h.2⟩
theorem big_take {F : Nat} {l : List Gq49} (h : Big F l) (n : Nat) : Big F (l.take n) := ⟨h.1.sub fun e he => List.mem_of_mem_take he, by have := h.2; simp; omega⟩
theorem same_big {F : Nat} (hF : 10010 < F) {l : List Gq49} (h : Big F l) : q33q F l l = some true := by
 have := h.2
 rw [sameList_s (by omega) h.1 (by omega)]; simp
theorem exact_L2 {F : Nat} (hF : 10010 < F) {p1 l10 v14 : List Gq49} {p2 p3 : Int} (h1 : Big F l10) (h2 : Big F p1) (h3 : Big F v14) {t : List Int} {k : Int} (hd : D (GDice.mk t k)) : Suc (q15q F p1 p2 p3 l10 v14 F 0 t k) fun r => r = true := by
 have hF0 : 20 < F := by omega
 refine loop3 (L := q15q F p1 p2 p3 l10 v14) (B := q19q F p1 p2 p3 l10 v14) (fun _ => rfl) (fun i t k => 0 ≤ i ∧ D (GDice.mk t k)) (fun i _ _ => 3 - i.toNat) _ ?_ F 0 t k ⟨by omega, hd⟩ (by simp; omega)
 intro rec i t k hI ih
 obtain ⟨q1, q2⟩ := hI
 unfold q19q
 refine Suc.ite (fun hc => ?_) fun hc => heavy_s hF0
 simp only [decide_eq_true_eq] at hc
 refine Suc.idx q1 (by simpa using hc) fun l hl _ => ?_
 have hB : Big F l := by
  simp only [List.mem_cons, List.not_mem_nil, or_false] at hl
  rcases hl with rfl | rfl | rfl <;> assumption
 obtain ⟨hp, hlen⟩ := id hB
 have hdl := dspL_len l
 rw [canon_s hF0 hp (by omega) (by omega), Option.bind_some, refCanon_s hF0 hp (by omega) (by omega), Option.bind_some, can_small hB]
 simp only
 rw [same_big hF (big_canL hB), disputed_s hF0 hp (by omega) (by omega), refDisputed_s hF hp (by omega) (by omega)]
 simp only [Option.bind_some, Bool.not_true, Bool.false_eq_true, if_false, bne_self_eq_false]
 rw [pairs_same (by omega) (by omega)]
 simp only [Option.bind_some, Bool.not_true, Bool.false_eq_true, if_false]
 refine (nextA q2).bind fun r31 h31 => ?_
 refine loop1 (L := q30q rec F p2 p3 i l r31) (B := q20q rec F p2 p3 i l r31) (fun _ => rfl) (fun j => 0 ≤ j) (fun j => 2 - j.toNat) _ ?_ F 0 (by omega) (by simp; omega)
 intro rec3 j hJ ih3
 unfold q20q
 refine Suc.ite (fun hc => ?_) fun hc => ?_
 ·simp only [decide_eq_true_eq] at hc
  refine Suc.idx hJ (by simpa using hc) fun x _ _ => ?_
  have hBt := big_take hB (kn x l)
  rw [known_s hF0 hp (by omega) (by omega), Option.bind_some, refKnown_s hF0 hp (by omega) (by omega), Option.bind_some, can_small hBt]
  simp only
  rw [same_big hF (big_canL hBt)]
  simp only [Option.bind_some, Bool.not_true, Bool.false_eq_true, if_false, bne_self_eq_false]
  rw [i64_of (by omega) (by omega)]
  exact ih3 _ (by omega) (by omega)
 ·rw [until_s hp (by omega) (by omega), Option.bind_some, refUntil_s (by omega) (by omega), Option.bind_some]
  have hBu : Big F (l.filter fun e => decide (e.Stamp.Time ≤ p3)) := ⟨hp.sub fun e he => (List.mem_filter.1 he).1, Nat.le_trans (List.length_filter_le _ _) hlen⟩
  rw [same_big hF hBu]
  simp only [Option.bind_some, Bool.not_true, Bool.false_eq_true, if_false]
  refine loop1 (L := q31q rec F p2 i l r31) (B := q21q rec F p2 i l r31) (fun _ => rfl) (fun j => 0 ≤ j) (fun j => l.length - j.toNat) _ ?_ F 0 (by omega) (by simp; omega)
  intro rec4 j hJ ih4
  unfold q21q
  refine Suc.ite (fun hc => ?_) fun hc => ?_
  ·simp only [decide_eq_true_eq] at hc
   refine (mod_s (p := p2) (n := l.length) (by omega) (by omega)).bind fun r48 h48 => ?_
   refine Suc.idx h48.1 h48.2 fun x49 _ _ => ?_
   obtain ⟨jn, rfl⟩ := Int.eq_ofNat_of_zero_le hJ
   have hj : jn < l.length := by omega
   have hx := hp _ (List.getElem_mem hj)
   rw [idx_lt hj]
   simp only [Option.bind_some]
   rw [markValid_s hF0, refValidE_s hF0, markSame_s hx.1 hx.2, refSame_s hx.1 hx.2, before_s (by omega), refBefore_s]
   simp only [Option.bind_some, beq_self_eq_true, Bool.not_true, Bool.false_eq_true, if_false]
   rw [i64_of (by omega) (by omega)]
   exact ih4 _ (by omega) (by omega)
  ·rw [i64_of (by omega) (by omega)]
   exact ih _ _ _ ⟨by omega, h31⟩ (by omega)
theorem exact_J1 {F : Nat} (hF : 10010 < F) {p1 l10 : List Gq49} {p2 p3 : Int} (hp10 : PS F l10) (hl10 : l10.length ≤ 40) (hp1 : PS F p1) (hl1 : p1.length ≤ 40) {t : List Int} {k : Int} (hd : D (GDice.mk t k)) : Suc (q3q F p1 p2 p3 l10 t k) fun r => r = true := by
 unfold q3q
 refine Suc.app (by simp; omega) ?_
 refine Suc.app (by simp; omega) ?_
 simp only [List.nil_append]
 refine exact_L2 hF ⟨hp10, by omega⟩ ⟨hp1, by omega⟩ ⟨fun e he => ?_, by simp; omega⟩ hd
 rcases List.mem_append.1 he with h | h
 ·exact hp10 e h
 ·exact hp1 e h
theorem ps_snoc {F : Nat} (hF : 20 < F) {l : List Gq49} {e : Gq49} (h : PS F l) (he : e.Pages.length ≤ 2) : PS F (l ++ [e]) := all_snoc h ⟨by omega, by omega⟩
theorem law_MarklogExact (t : List Int) (raw : List Gq49) (n time : Int) (h : ∀ e ∈ raw, e.Pages.length ≤ 1048576) : ∃ F, q87q F t raw n time = some true := by
 refine ⟨2000000, suc_true ?_⟩
 have hF : 10010 < 2000000 := by omega
 have hF0 : 20 < 2000000 := by omega
 unfold q87q
 rw [light_s, Option.bind_some]
 by_cases hl : (t.length : Int) ≤ 600
 ·simp only [hl, decide_true, Bool.not_true, Bool.false_eq_true, if_false, Option.bind_some]
  refine Suc.ite (fun _ => heavy_s hF0) fun hc => ?_
  simp only [decide_eq_true_eq] at hc
  have hraw : PS 2000000 raw := fun e he => by have := h e he; exact ⟨by omega, by omega⟩
  have hrl : raw.length ≤ 40 := by omega
  refine start_s hl (by omega) (by omega) (by omega) fun r5 r6 a6 l6 d6 => ?_
  have ps6 : PS 2000000 r6.1 := ps_of hF0 a6
  refine Suc.ite (fun hc => ?_) fun _ => exact_J1 hF ps6 (by omega) hraw hrl d6
  simp only [decide_eq_true_eq] at hc
  refine (next_s d6 (by omega) (by omega)).bind fun r69 h69 => ?_
  refine Suc.idx h69.1 h69.2.1 fun x hx _ => ?_
  have hxp := (a6 x hx).2.2.2.2
  refine (nextA h69.2.2).bind fun r71 h71 => ?_
  refine Suc.ite (fun _ => ?_) fun _ => ?_
  ·refine (pick_s h71 (by simp) (by simp)).bind fun r h => ?_
   refine Suc.app (by simp; omega) ?_
   refine exact_J1 hF (ps_snoc hF0 ps6 ?_) (by simp; omega) hraw hrl h.2
   exact hxp
  refine Suc.ite (fun _ => ?_) fun _ => ?_
  ·refine (pick_s h71 (by simp) (by simp)).bind fun r h => ?_
   refine Suc.app (by simp; omega) ?_
   refine exact_J1 hF (ps_snoc hF0 ps6 ?_) (by simp; omega) hraw hrl h.2
   exact hxp
  refine Suc.ite (fun _ => ?_) fun _ => ?_
  ·refine (pick_s h71 (by simp) (by simp)).bind fun r h => ?_
   refine Suc.app (by simp; omega) ?_
   refine exact_J1 hF (ps_snoc hF0 ps6 ?_) (by simp; omega) hraw hrl h.2
   exact hxp
  refine Suc.ite (fun _ => ?_) fun _ => ?_
  ·refine (pick_s h71 (by simp) (by simp)).bind fun r h => ?_
   refine Suc.app (by simp; omega) ?_
   refine exact_J1 hF (ps_snoc hF0 ps6 ?_) (by simp; omega) hraw hrl h.2
   exact hxp
  refine Suc.ite (fun _ => ?_) fun _ => ?_
  ·refine (pick_s h71 (by simp) (by simp)).bind fun r h => ?_
   refine Suc.app (by simp; omega) ?_
   exact exact_J1 hF (ps_snoc hF0 ps6 (by simp)) (by simp; omega) hraw hrl h.2
  ·refine (pick_s h71 (by simp) (by simp)).bind fun r h => ?_
   refine Suc.app (by simp; omega) ?_
   refine exact_J1 hF (ps_snoc hF0 ps6 ?_) (by simp; omega) hraw hrl h.2
   exact hxp
 ·simp only [hl, decide_false, Bool.not_false, if_true, Option.bind_some]
  exact heavy_s hF0
end Go.Sh
