import Derived.Test.YtdjkbicmkbnjdaaGreatZSh
set_option linter.unusedVariables false
set_option linter.unusedSimpArgs false
namespace Go.Sh
open Go.L

theorem i64_of {n : Int} (h1 : -9223372036854775808 ≤ n) (h2 : n ≤ 9223372036854775807) : i64 n = n := by
 show IntKind.i64.wrap n = n
 rw [IntKind.wrap_i64]; omega
theorem idx_nat {α : Type} (l : List α) (i : Nat) : idx l (i : Int) = l[i]? := by
 unfold idx; simp
theorem idx_some {α : Type} {l : List α} {i : Int} {x : α} : idx l i = some x ↔ 0 ≤ i ∧ l[i.toNat]? = some x := by
 unfold idx; split
 ·simp_all
 ·constructor
  ·intro h; cases h
  ·intro h; omega
theorem idx_lt {α : Type} {l : List α} {i : Nat} (h : i < l.length) : idx l (i : Int) = some l[i] := by
 rw [idx_nat]; simp [h]
theorem idx_at {α : Type} (p : List α) (x : α) (s : List α) : idx (p ++ x :: s) (p.length : Int) = some x := by
 rw [idx_nat]; simp
theorem app_of {α : Type} {xs ys : List α} (h : xs.length + ys.length ≤ 1099511627776) : app xs ys = some (xs ++ ys) := by unfold app; rw [if_pos h]
theorem slc_take {α : Type} {xs : List α} {n : Nat} (h : n ≤ xs.length) : slc xs 0 n = some (xs.take n) := by
 unfold slc; rw [if_pos ⟨by omega, by omega, by omega⟩]; simp
theorem slc_drop {α : Type} {xs : List α} {n : Nat} (h : n ≤ xs.length) : slc xs n (xs.length : Int) = some (xs.drop n) := by
 unfold slc; rw [if_pos ⟨by omega, by omega, by omega⟩]; simp
theorem mkl_of {α : Type} {z : α} {n : Nat} (h : n ≤ 1000000) : mkl z (n : Int) = some (List.replicate n z) := by
 unfold mkl; rw [if_pos ⟨by omega, by omega⟩]; simp
theorem dlt {α : Type} (p : List α) (x : α) (s : List α) : decide ((p.length : Int) < ((p ++ x :: s).length : Int)) = true := by simp; omega
theorem dge {α : Type} (p : List α) : decide ((p.length : Int) < ((p ++ []).length : Int)) = false := by simp
theorem nxt {α : Type} (p : List α) (x : α) (h : p.length < 1000000000) : i64 ((p.length : Int) + 1) = ((p ++ [x]).length : Int) := by
 rw [i64_of (by omega) (by omega)]; simp
theorem snoc {α : Type} (p : List α) (x : α) (s : List α) : p ++ x :: s = (p ++ [x]) ++ s := by simp

theorem loop1 {α R : Type} {L : Nat → α → Option R} {B : (α → Option R) → α → Option R} (hL : ∀ n, L (n + 1) = B (L n)) (I : α → Prop) (μ : α → Nat) (Post : R → Prop)
  (step : ∀ rec a, I a → (∀ a', I a' → μ a' < μ a → ∃ r, rec a' = some r ∧ Post r) → ∃ r, B rec a = some r ∧ Post r) : ∀ n a, I a → μ a < n → ∃ r, L n a = some r ∧ Post r := by
 intro n
 induction n with
 | zero => intro a _ h; omega
 | succ n ih => intro a hI h; rw [hL]; exact step _ a hI fun a' h1 h2 => ih a' h1 (by omega)
theorem loop2 {α β R : Type} {L : Nat → α → β → Option R} {B : (α → β → Option R) → α → β → Option R} (hL : ∀ n, L (n + 1) = B (L n)) (I : α → β → Prop) (μ : α → β → Nat) (Post : R → Prop)
  (step : ∀ rec a b, I a b → (∀ a' b', I a' b' → μ a' b' < μ a b → ∃ r, rec a' b' = some r ∧ Post r) → ∃ r, B rec a b = some r ∧ Post r) : ∀ n a b, I a b → μ a b < n → ∃ r, L n a b = some r ∧ Post r := by
 intro n
 induction n with
 | zero => intro a b _ h; omega
 | succ n ih => intro a b hI h; rw [hL]; exact step _ a b hI fun a' b' h1 h2 => ih a' b' h1 (by omega)
theorem loop4 {α β γ δ R : Type} {L : Nat → α → β → γ → δ → Option R} {B : (α → β → γ → δ → Option R) → α → β → γ → δ → Option R} (hL : ∀ n, L (n + 1) = B (L n)) (I : α → β → γ → δ → Prop) (μ : α → β → γ → δ → Nat) (Post : R → Prop)
  (step : ∀ rec a b c d, I a b c d → (∀ a' b' c' d', I a' b' c' d' → μ a' b' c' d' < μ a b c d → ∃ r, rec a' b' c' d' = some r ∧ Post r) → ∃ r, B rec a b c d = some r ∧ Post r) : ∀ n a b c d, I a b c d → μ a b c d < n → ∃ r, L n a b c d = some r ∧ Post r := by
 intro n
 induction n with
 | zero => intro a b c d _ h; omega
 | succ n ih => intro a b c d hI h; rw [hL]; exact step _ a b c d hI fun a' b' c' d' h1 h2 => ih a' b' c' d' h1 (by omega)
def cmpS (a b : Int) : Int := if a < b then -1 else if b < a then 1 else 0
theorem compare_s (a b : Int) : cmp_Compare_int a b = some (cmpS a b) := by
 simp only [cmp_Compare_int, cmp_isNaN_int, cmpS, Option.bind_some, bne_self_eq_false, Bool.false_eq_true, if_false, decide_eq_true_eq, gt_iff_lt]
 repeat' split
 all_goals first | rfl | omega
theorem order_s (a b : Int) : q142q a b = some (cmpS a b) := by
 simp only [q142q, cmpS, decide_eq_true_eq, gt_iff_lt]
 repeat' split
 all_goals first | rfl | omega
def orS : List Int → Int
 | [] => 0
 | x :: r => if x = 0 then orS r else x
theorem or_loop (s : List Int) : ∀ (p : List Int) (n : Nat), (p ++ s).length < 1000000 → s.length < n → cmp_Or_int_L1 (p ++ s) n (p.length : Int) = some (orS s) := by
 induction s with
 | nil => intro p n hb hn; cases n with
  | zero => omega
  | succ n => simp only [cmp_Or_int_L1, cmp_Or_int_L1_B, dge, Bool.false_eq_true, if_false, orS]
 | cons x s ih => intro p n hb hn; cases n with
  | zero => omega
  | succ n =>
   simp only [cmp_Or_int_L1, cmp_Or_int_L1_B, dlt, idx_at, if_true, Option.bind_some, orS, bne_iff_ne, ne_eq]
   by_cases h : x = 0
   ·simp only [h, not_true_eq_false, if_false, if_true]
    have hl : p.length < 1000000000 := by simp at hb; omega
    rw [nxt p 0 hl, snoc]
    exact ih (p ++ [0]) n (by simpa using hb) (by simpa using hn)
   ·simp [h]
theorem or_s {F : Nat} {xs : List Int} (hb : xs.length < 1000000) (hF : xs.length < F) : cmp_Or_int F xs = some (orS xs) := by
 have := or_loop xs [] F (by simpa using hb) hF
 simpa [cmp_Or_int] using this
def cmpId (x y : Gq3) : Int := if cmpS x.Source y.Source ≠ 0 then cmpS x.Source y.Source else cmpS x.Seq y.Seq
def cmpSt (x y : Gq3) : Int := if cmpS x.Time y.Time ≠ 0 then cmpS x.Time y.Time else cmpId x y
theorem compareId_s {F : Nat} (hF : 10 ≤ F) (x y : Gq3) : q52q F x y = some (cmpId x y) := by
 simp only [q52q, compare_s, Option.bind_some]
 rw [or_s (by simp) (by simp; omega)]
 simp only [Option.bind_some, orS, cmpId]
 repeat' split
 all_goals simp_all
theorem stampCompare_s {F : Nat} (hF : 10 ≤ F) (x y : Gq3) : q174q F x y = some (cmpSt x y) := by
 simp only [q174q, compare_s, Option.bind_some]
 rw [or_s (by simp) (by simp; omega)]
 simp only [Option.bind_some, orS, cmpSt, cmpId]
 repeat' split
 all_goals simp_all
theorem refCompare_s (x y : Gq3) : q169q x y = some (cmpSt x y) := by
 simp only [q169q, order_s, Option.bind_some, cmpSt, cmpId, beq_iff_eq]
 repeat' split
 all_goals simp_all
def Gq3.good (x : Gq3) : Bool := (decide (x.Time ≥ 0)) && ((decide (x.Time ≤ 1000000)) && ((decide (x.Source ≥ 0)) && ((decide (x.Source ≤ 99)) && ((decide (x.Seq ≥ 0)) && (decide (x.Seq ≤ 9999))))))
theorem valid_s (x : Gq3) : q211q x = some x.good := rfl
theorem refValid_s (x : Gq3) : q192q x = some x.good := rfl
theorem cmpS_lt {a b : Int} : cmpS a b < 0 ↔ a < b := by unfold cmpS; repeat' split
                                                         all_goals omega
theorem cmpS_zero {a b : Int} : cmpS a b = 0 ↔ a = b := by unfold cmpS; repeat' split
                                                           all_goals omega
theorem cmpId_lt {x y : Gq3} : cmpId x y < 0 ↔ x.Source < y.Source ∨ x.Source = y.Source ∧ x.Seq < y.Seq := by
 unfold cmpId; have := @cmpS_zero x.Source y.Source; split
 ·rw [cmpS_lt]; simp_all
 ·rw [cmpS_lt]; simp_all
theorem cmpId_zero {x y : Gq3} : cmpId x y = 0 ↔ x.Source = y.Source ∧ x.Seq = y.Seq := by
 unfold cmpId; have := @cmpS_zero x.Source y.Source; have := @cmpS_zero x.Seq y.Seq; split <;> simp_all
theorem cmpSt_lt {x y : Gq3} : cmpSt x y < 0 ↔ x.Time < y.Time ∨ x.Time = y.Time ∧ (x.Source < y.Source ∨ x.Source = y.Source ∧ x.Seq < y.Seq) := by
 unfold cmpSt; have := @cmpS_zero x.Time y.Time; split
 ·rw [cmpS_lt]; simp_all
 ·rw [cmpId_lt]; simp_all
theorem cmpSt_zero {x y : Gq3} : cmpSt x y = 0 ↔ x = y := by
 have h1 := @cmpS_zero x.Time y.Time
 have h2 := @cmpId_zero x y
 have h3 : x = y ↔ x.Time = y.Time ∧ x.Source = y.Source ∧ x.Seq = y.Seq := by cases x; cases y; simp
 unfold cmpSt; split <;> simp_all
theorem cmpSt_gt {x y : Gq3} : cmpSt x y > 0 ↔ cmpSt y x < 0 := by
 rw [cmpSt_lt]
 unfold cmpSt cmpId cmpS
 repeat' split
 all_goals omega
end Go.Sh
set_option linter.unusedVariables false
set_option linter.unusedSimpArgs false
namespace Go.Sh
open Go.L

theorem sorted_ext {α : Type} {R : α → α → Prop} (hi : ∀ a, ¬ R a a) (ht : ∀ a b c, R a b → R b c → R a c) : ∀ {xs ys : List α}, xs.Pairwise R → ys.Pairwise R → (∀ a, a ∈ xs ↔ a ∈ ys) → xs = ys
 | [], [], _, _, _ => rfl
 | [], y :: ys, _, _, h => by have := (h y).2 (by simp); simp at this
 | x :: xs, [], _, _, h => by have := (h x).1 (by simp); simp at this
 | x :: xs, y :: ys, hx, hy, h => by
  rw [List.pairwise_cons] at hx hy
  have hxy : x = y := by
   rcases List.mem_cons.1 ((h x).1 (by simp)) with h1 | h1
   ·exact h1
   ·rcases List.mem_cons.1 ((h y).2 (by simp)) with h2 | h2
    ·exact h2.symm
    ·exact absurd (ht _ _ _ (hx.1 y h2) (hy.1 x h1)) (hi x)
  subst hxy
  congr 1
  refine sorted_ext hi ht hx.2 hy.2 fun a => ?_
  have := h a
  simp only [List.mem_cons] at this
  constructor
  ·intro ha
   rcases this.1 (.inr ha) with h1 | h1
   ·subst h1; exact absurd (hx.1 a ha) (hi a)
   ·exact h1
  ·intro ha
   rcases this.2 (.inr ha) with h1 | h1
   ·subst h1; exact absurd (hy.1 a ha) (hi a)
   ·exact h1
def insS {α : Type} (lt : α → α → Bool) (x : α) : List α → List α
 | [] => [x]
 | y :: r => if lt x y then x :: y :: r else y :: insS lt x r
theorem mem_insS {α : Type} {lt : α → α → Bool} {x a : α} : ∀ {l : List α}, a ∈ insS lt x l ↔ a = x ∨ a ∈ l
 | [] => by simp [insS]
 | y :: r => by
  simp only [insS]
  split
  ·simp
  ·simp only [List.mem_cons, mem_insS (l := r)]
   constructor
   ·rintro (h | h | h) <;> simp [h]
   ·rintro (h | h | h) <;> simp [h]
theorem perm_insS {α : Type} {lt : α → α → Bool} {x : α} : ∀ {l : List α}, (insS lt x l).Perm (x :: l)
 | [] => .refl _
 | y :: r => by
  simp only [insS]
  split
  ·exact .refl _
  ·exact (perm_insS.cons y).trans (List.Perm.swap x y r)
theorem sorted_insS {α : Type} {lt : α → α → Bool} {x : α} : ∀ {l : List α}, (∀ a ∈ x :: l, ∀ b ∈ x :: l, ∀ c ∈ x :: l, lt a b = true → lt b c = true → lt a c = true) → (∀ y ∈ l, lt x y = true ∨ lt y x = true) → l.Pairwise (fun a b => lt a b = true) → (insS lt x l).Pairwise fun a b => lt a b = true
 | [], _, _, _ => by simp [insS]
 | y :: r, ht, htot, hp => by
  rw [List.pairwise_cons] at hp
  simp only [insS]
  split
  ·rename_i hxy
   rw [List.pairwise_cons]
   refine ⟨fun a ha => ?_, List.pairwise_cons.2 hp⟩
   rcases List.mem_cons.1 ha with rfl | ha'
   ·exact hxy
   ·exact ht x (by simp) y (by simp) a (by simp [ha']) hxy (hp.1 a ha')
  ·rename_i hxy
   have hyx : lt y x = true := (htot y (by simp)).resolve_left hxy
   rw [List.pairwise_cons]
   have hm2 : ∀ a, a ∈ x :: r → a ∈ x :: y :: r := fun a ha => by rcases List.mem_cons.1 ha with h | h <;> simp [h]
   refine ⟨fun a ha => ?_, sorted_insS (fun a ha b hb c hc => ht a (hm2 a ha) b (hm2 b hb) c (hm2 c hc)) (fun z hz => htot z (by simp [hz])) hp.2⟩
   rcases mem_insS.1 ha with rfl | ha
   ·exact hyx
   ·exact hp.1 a ha
def isort {α : Type} (lt : α → α → Bool) : List α → List α
 | [] => []
 | x :: r => insS lt x (isort lt r)
theorem perm_isort {α : Type} {lt : α → α → Bool} : ∀ {l : List α}, (isort lt l).Perm l
 | [] => .refl _
 | x :: r => perm_insS.trans (perm_isort.cons x)
theorem sorted_isort {α : Type} {lt : α → α → Bool} : ∀ {l : List α}, (∀ a ∈ l, ∀ b ∈ l, ∀ c ∈ l, lt a b = true → lt b c = true → lt a c = true) → l.Pairwise (fun a b => lt a b = true ∨ lt b a = true) → (isort lt l).Pairwise fun a b => lt a b = true
 | [], _, _ => by simp [isort]
 | x :: r, ht, hp => by
  rw [List.pairwise_cons] at hp
  simp only [isort]
  have hm : ∀ a, a ∈ x :: isort lt r → a ∈ x :: r := fun a ha => by
   rcases List.mem_cons.1 ha with h | h
   ·simp [h]
   ·simp [perm_isort.mem_iff.1 h]
  exact sorted_insS (fun a ha b hb c hc => ht a (hm a ha) b (hm b hb) c (hm c hc)) (fun y hy => hp.1 y (perm_isort.mem_iff.1 hy)) (sorted_isort (fun a ha b hb c hc => ht a (by simp [ha]) b (by simp [hb]) c (by simp [hc])) hp.2)
theorem sortF_by {α : Type} {c : α → α → Option Int} {xs : List α} (cf : α → α → Int) (hlen : xs.length < 1000000) (hc : ∀ x ∈ xs, ∀ y ∈ xs, c x y = some (cf x y)) (hi : ∀ x ∈ xs, ¬ cf x x < 0) (ht : ∀ x ∈ xs, ∀ y ∈ xs, ∀ z ∈ xs, cf x y < 0 → cf y z < 0 → cf x z < 0)
  (hn : ∀ x ∈ xs, ∀ y ∈ xs, ∀ z ∈ xs, ¬ cf x y < 0 → ¬ cf y z < 0 → ¬ cf x z < 0) (hd : xs.Pairwise fun a b => cf a b < 0 ∨ cf b a < 0) : ∃ ys, sortF c xs = some ys ∧ ys.Perm xs ∧ ys.Pairwise fun a b => cf a b < 0 := by
 have hs := sorted_isort (lt := fun a b => decide (cf a b < 0)) (l := xs) (fun a ha b hb c hc => by simpa using ht a ha b hb c hc) (by simpa using hd)
 have hs' : (isort (fun a b => decide (cf a b < 0)) xs).Pairwise fun a b => cf a b < 0 := by simpa using hs
 exact ⟨_, sortF_eq ⟨perm_isort, hlen, cf, hc, hi, ht, hn, hs'⟩, perm_isort, hs'⟩

def sid (x y : Gq3) : Prop := x.Source = y.Source ∧ x.Seq = y.Seq
instance (x y : Gq3) : Decidable (sid x y) := by unfold sid; infer_instance
def okAt (l : List Gq3) (i : Nat) : Prop := ∃ x, l[i]? = some x ∧ x.good = true
def disp (l : List Gq3) (cl : List Int) (i k : Nat) : Prop := ∃ x y c d, l[i]? = some x ∧ l[k]? = some y ∧ cl[i]? = some c ∧ cl[k]? = some d ∧ sid x y ∧ (x.Time ≠ y.Time ∨ c ≠ d)
def counts (l : List Gq3) (cl : List Int) (i : Nat) : Prop := okAt l i ∧ ∀ k, okAt l k → ¬ disp l cl i k ∧ (k < i → l[k]? ≠ l[i]?)
def ltAt (l : List Gq3) (a b : Int) : Prop := ∃ x y, l[a.toNat]? = some x ∧ l[b.toNat]? = some y ∧ cmpSt x y < 0
structure IsCanon (l : List Gq3) (cl : List Int) (a : List Int) : Prop where
 sorted : a.Pairwise (ltAt l)
 mem : ∀ i, i ∈ a ↔ 0 ≤ i ∧ counts l cl i.toNat
theorem ltAt_irr (l : List Gq3) (a : Int) : ¬ ltAt l a a := by
 rintro ⟨x, y, h1, h2, h3⟩
 rw [h1] at h2; cases h2
 rw [cmpSt_lt] at h3; omega
theorem ltAt_trans (l : List Gq3) (a b c : Int) (h : ltAt l a b) (h' : ltAt l b c) : ltAt l a c := by
 obtain ⟨x, y, h1, h2, h3⟩ := h
 obtain ⟨y', z, h4, h5, h6⟩ := h'
 rw [h2] at h4; cases h4
 refine ⟨x, z, h1, h5, ?_⟩
 rw [cmpSt_lt] at *; omega
theorem IsCanon.unique {l : List Gq3} {cl : List Int} {a b : List Int} (h : IsCanon l cl a) (h' : IsCanon l cl b) : a = b :=
 sorted_ext (ltAt_irr l) (ltAt_trans l) h.sorted h'.sorted fun i => by rw [h.mem, h'.mem]
def Canon (l : List Gq3) (cl : List Int) (r : List Int × Int) : Prop :=
 if l.length ≠ cl.length then r = ([], 1) else ∃ a, IsCanon l cl a ∧ r = if 300 < a.length then ([], 3) else (a, 0)
theorem Canon.unique {l : List Gq3} {cl : List Int} {r s : List Int × Int} (h : Canon l cl r) (h' : Canon l cl s) : r = s := by
 unfold Canon at *
 split at h
 ·rename_i hl; rw [if_pos hl] at h'; rw [h, h']
 ·rename_i hl; rw [if_neg hl] at h'
  obtain ⟨a, h1, rfl⟩ := h
  obtain ⟨b, h2, rfl⟩ := h'
  rw [h1.unique h2]
end Go.Sh
set_option linter.unusedVariables false
set_option linter.unusedSimpArgs false
namespace Go.Sh
open Go.L

theorem okAt_lt {l : List Gq3} {i : Nat} (h : i < l.length) : okAt l i ↔ l[i].good = true := by
 unfold okAt; simp [h]
theorem disp_lt {l : List Gq3} {cl : List Int} {i k : Nat} (h : i < l.length) (hk : k < l.length) (hl : l.length = cl.length) : disp l cl i k ↔ sid l[i] l[k] ∧ (l[i].Time ≠ l[k].Time ∨ cl[i] ≠ cl[k]) := by
 unfold disp
 have h' : i < cl.length := by omega
 have hk' : k < cl.length := by omega
 simp only [List.getElem?_eq_getElem, h, hk, h', hk', Option.some.injEq]
 constructor
 ·rintro ⟨x, y, c, d, rfl, rfl, rfl, rfl, h1, h2⟩; exact ⟨h1, h2⟩
 ·rintro ⟨h1, h2⟩; exact ⟨_, _, _, _, rfl, rfl, rfl, rfl, h1, h2⟩
theorem okAt_ge {l : List Gq3} {i : Nat} (h : l.length ≤ i) : ¬ okAt l i := by
 rintro ⟨x, h1, _⟩; rw [List.getElem?_eq_none h] at h1; cases h1

theorem counts_loop {l : List Gq3} {cl : List Int} {i : Nat} (hi : i < l.length) (hl : l.length = cl.length) (hb : l.length < 1000000) (hgi : l[i].good = true) :
  ∀ n (k : Int), (∃ j : Nat, k = j ∧ j ≤ l.length ∧ ∀ q, q < j → okAt l q → ¬ disp l cl i q ∧ (q < i → l[q]? ≠ l[i]?)) → (l.length - k.toNat) < n → ∃ r, q125q l cl i n k = some r ∧ (r = true ↔ counts l cl i) := by
 refine loop1 (L := q125q l cl i) (B := q102q l cl i) (fun _ => rfl) _ (fun k : Int => l.length - k.toNat) _ ?_
 rintro rec k ⟨j, rfl, hj, hI⟩ hrec
 have hi' : i < cl.length := by omega
 by_cases hlt : j < l.length
 ·have hj' : j < cl.length := by omega
  have d1 : decide ((j : Int) < (l.length : Int)) = true := by simp; exact hlt
  have hnext : i64 ((j : Int) + 1) = ((j + 1 : Nat) : Int) := by rw [i64_of (by omega) (by omega)]; rfl
  have hI' : (okAt l j → ¬ disp l cl i j ∧ (j < i → l[j]? ≠ l[i]?)) → ∃ r, rec (i64 ((j : Int) + 1)) = some r ∧ (r = true ↔ counts l cl i) := fun h => by
   rw [hnext]
   refine hrec _ ⟨j + 1, rfl, by omega, fun q hq => ?_⟩ (by simp; omega)
   rcases Nat.lt_succ_iff_lt_or_eq.1 hq with h1 | rfl
   ·exact hI q h1
   ·exact h
  unfold q102q
  simp only [d1, if_true, idx_lt hlt, idx_lt hi, idx_lt hj', idx_lt hi', refValid_s, Option.bind_some, q187q]
  by_cases hg : l[j].good = true
  ·have hok : okAt l j := (okAt_lt hlt).2 hg
   simp only [hg, if_true]
   by_cases hd : ((l[i].Source == l[j].Source) && ((l[i].Seq == l[j].Seq) && ((l[i].Time != l[j].Time) || (cl[i] != cl[j])))) = true
   ·simp only [hd, if_true, Option.bind_some]
    refine ⟨false, rfl, ?_⟩
    simp only [Bool.false_eq_true, false_iff]
    intro hc
    refine (hc.2 j hok).1 ((disp_lt hi hlt hl).2 ?_)
    simp at hd; unfold sid; exact ⟨⟨hd.1, hd.2.1⟩, hd.2.2⟩
   ·have hd' : ¬ disp l cl i j := fun h => hd (by
     have := (disp_lt hi hlt hl).1 h; unfold sid at this; simp [this])
    simp only [bF hd, Bool.false_eq_true, if_false]
    by_cases hji : j < i
    ·have : decide ((j : Int) < (i : Int)) = true := by simp; exact hji
     simp only [this, if_true, Option.bind_some]
     by_cases he : l[j] = l[i]
     ·simp only [he, decide_true, if_true]
      refine ⟨false, rfl, ?_⟩
      simp only [Bool.false_eq_true, false_iff]
      intro hc
      exact (hc.2 j hok).2 hji (by simp [hlt, hi, he])
     ·simp only [he, decide_false, Bool.false_eq_true, if_false]
      exact hI' fun _ => ⟨hd', fun _ h => he (by simpa [hlt, hi] using h)⟩
    ·have : decide ((j : Int) < (i : Int)) = false := by simp; omega
     simp only [this, Bool.false_eq_true, if_false, Option.bind_some]
     exact hI' fun _ => ⟨hd', fun h => absurd h hji⟩
  ·simp only [bF hg, Bool.false_eq_true, if_false, Option.bind_some]
   exact hI' fun h => absurd ((okAt_lt hlt).1 h) hg
 ·have d1 : decide ((j : Int) < (l.length : Int)) = false := by simp; omega
  unfold q102q
  simp only [d1, Bool.false_eq_true, if_false]
  refine ⟨true, rfl, ?_⟩
  simp only [true_iff]
  refine ⟨(okAt_lt hi).2 hgi, fun k hk => hI k ?_ hk⟩
  by_cases hkl : k < l.length
  ·omega
  ·exact absurd hk (okAt_ge (by omega))
theorem refCounts_s {F : Nat} {l : List Gq3} {cl : List Int} {i : Nat} (hi : i < l.length) (hl : l.length = cl.length) (hb : l.length < 1000000) (hF : l.length < F) : ∃ b, q182q F l cl i = some b ∧ (b = true ↔ counts l cl i) := by
 unfold q182q
 simp only [idx_lt hi, refValid_s, Option.bind_some]
 by_cases hg : l[i].good = true
 ·simp only [hg, Bool.not_true, Bool.false_eq_true, if_false]
  exact counts_loop hi hl hb hg F _ ⟨0, rfl, by omega, fun q hq => by omega⟩ (by simpa using hF)
 ·simp only [bF hg, Bool.not_false, if_true]
  refine ⟨false, rfl, ?_⟩
  simp only [Bool.false_eq_true, false_iff]
  exact fun h => hg ((okAt_lt hi).1 h.1)
theorem counts_inj {l : List Gq3} {cl : List Int} {i k : Nat} (hi : counts l cl i) (hk : counts l cl k) (h : l[i]? = l[k]?) : i = k := by
 rcases Nat.lt_trichotomy i k with h1 | h1 | h1
 ·exact absurd h ((hk.2 i hi.1).2 h1)
 ·exact h1
 ·exact absurd h.symm ((hi.2 k hk.1).2 h1)
theorem counts_lt {l : List Gq3} {cl : List Int} {i : Nat} (h : counts l cl i) : i < l.length := by
 obtain ⟨⟨x, h1, _⟩, _⟩ := h
 exact (List.getElem?_eq_some_iff.1 h1).1
theorem counts_tot {l : List Gq3} {cl : List Int} {i k : Nat} (hi : counts l cl i) (hk : counts l cl k) (h : i ≠ k) : ltAt l i k ∨ ltAt l k i := by
 have h1 := counts_lt hi
 have h2 := counts_lt hk
 have h3 : l[i] ≠ l[k] := fun he => h (counts_inj hi hk (by simp [h1, h2, he]))
 have h4 : ¬ cmpSt l[i] l[k] = 0 := fun he => h3 (cmpSt_zero.1 he)
 rcases Int.lt_or_gt_of_ne h4 with h5 | h5
 ·exact .inl ⟨l[i], l[k], by simp [h1], by simp [h2], h5⟩
 ·exact .inr ⟨l[k], l[i], by simp [h2], by simp [h1], cmpSt_gt.1 h5⟩

theorem refPlace {l : List Gq3} {cl : List Int} {out : List Int} {i : Nat} (hi : i < l.length) (hlen : out.length < 1000000) (hout : ∀ a ∈ out, 0 ≤ a ∧ a.toNat < l.length) (hs : out.Pairwise (ltAt l)) {rec1 : List Int → Int → Option (List Int × Int)} {Post : List Int × Int → Prop}
  (h : ∀ p s, out = p ++ s → (∀ a ∈ s, ltAt l i a) → (∀ a, p.getLast? = some a → ¬ ltAt l i a) → ∃ r, rec1 (p ++ (i : Int) :: s) (i64 ((i : Int) + 1)) = some r ∧ Post r) :
  ∀ n (k : Int), (∃ p s, out = p ++ s ∧ k = (p.length : Int) ∧ ∀ a ∈ s, ltAt l i a) → k.toNat < n → ∃ r, q74q rec1 l out i n k = some r ∧ Post r := by
 refine loop1 (L := q74q rec1 l out i) (B := q88q rec1 l out i) (fun _ => rfl) _ (fun k : Int => k.toNat) _ ?_
 rintro rec k ⟨p, s, rfl, rfl, hgt⟩ hrec
 unfold q88q
 have fin : (∀ a, p.getLast? = some a → ¬ ltAt l i a) → ∃ r, ((slc (p ++ s) 0 (p.length : Int)).bind fun v16 => (app [] v16).bind fun v17 => (app v17 [(i : Int)]).bind fun v18 => (slc (p ++ s) (p.length : Int) ((p ++ s).length : Int)).bind fun v19 => (app v18 v19).bind fun v20 => rec1 v20 (i64 ((i : Int) + 1))) = some r ∧ Post r := fun hlast => by
  simp only [List.length_append] at hlen
  rw [slc_take (by simp), slc_drop (by simp)]
  simp only [Option.bind_some, List.take_left, List.drop_left]
  rw [app_of (by simp; omega)]
  simp only [Option.bind_some, List.nil_append]
  rw [app_of (by simp; omega)]
  simp only [Option.bind_some]
  rw [app_of (by simp; omega)]
  simp only [Option.bind_some, List.append_assoc, List.singleton_append]
  exact h p s rfl hgt hlast
 rcases List.eq_nil_or_concat p with rfl | ⟨q, a, rfl⟩
 ·simp only [List.length_nil, Int.ofNat_zero, gt_iff_lt, Int.lt_irrefl, decide_false, Bool.false_eq_true, if_false, Option.bind_some]
  exact fin (by simp)
 ·rw [List.concat_eq_append] at *
  have ha := hout a (by simp)
  have d1 : decide (((q ++ [a]).length : Int) > 0) = true := by simp only [List.length_append, List.length_singleton, decide_eq_true_eq]; omega
  have hw : i64 (((q ++ [a]).length : Int) - 1) = (q.length : Int) := by
   simp only [List.length_append, List.length_singleton] at hlen ⊢
   rw [i64_of (by omega) (by omega)]; omega
  have hq : idx (q ++ [a] ++ s) (q.length : Int) = some a := by rw [List.append_assoc]; exact idx_at q a s
  have hx : idx l a = some l[a.toNat] := by rw [idx_some]; exact ⟨ha.1, by simp [ha.2]⟩
  simp only [d1, if_true, hw, hq, hx, idx_lt hi, refCompare_s, Option.bind_some]
  by_cases hc : cmpSt l[a.toNat] l[i] > 0
  ·simp only [hc, decide_true, if_true]
   have hia : ltAt l i a := ⟨l[i], l[a.toNat], by simp [hi], by simp [ha.2], cmpSt_gt.1 hc⟩
   refine hrec _ ⟨q, a :: s, by simp, rfl, fun b hb => ?_⟩ (by simp)
   rcases List.mem_cons.1 hb with rfl | hb
   ·exact hia
   ·exact hgt b hb
  ·simp only [hc, decide_false, Bool.false_eq_true, if_false]
   refine fin fun b hb => ?_
   simp at hb; subst hb
   rintro ⟨x, y, h1, h2, h3⟩
   simp [hi] at h1
   simp [ha.2] at h2
   subst h1; subst h2
   exact hc (cmpSt_gt.2 h3)
theorem refCanon_loop {F : Nat} {l : List Gq3} {cl : List Int} (hl : l.length = cl.length) (hb : l.length < 1000000) (hF : l.length < F) :
  ∀ n (out : List Int) (k : Int), (∃ j : Nat, k = j ∧ j ≤ l.length ∧ out.length ≤ j ∧ out.Pairwise (ltAt l) ∧ ∀ i, i ∈ out ↔ 0 ≤ i ∧ i.toNat < j ∧ counts l cl i.toNat) → (l.length - k.toNat) < n → ∃ r, q73q F l cl n out k = some r ∧ Canon l cl r := by
 refine loop2 (L := q73q F l cl) (B := q87q F l cl) (fun _ => rfl) _ (fun (_ : List Int) (k : Int) => l.length - k.toNat) _ ?_
 rintro rec out k ⟨j, rfl, hj, hlen, hs, hm⟩ hrec
 unfold q87q
 by_cases hlt : j < l.length
 ·have d1 : decide ((j : Int) < (l.length : Int)) = true := by simp; exact hlt
  have hnext : i64 ((j : Int) + 1) = ((j + 1 : Nat) : Int) := by rw [i64_of (by omega) (by omega)]; rfl
  obtain ⟨b, h1, h2⟩ := refCounts_s (F := F) hlt hl hb hF
  simp only [d1, if_true, h1, Option.bind_some]
  cases b with
  | false =>
   simp only [Bool.not_false, if_true]
   have hnc : ¬ counts l cl j := fun h => by simpa using h2.2 h
   rw [hnext]
   refine hrec _ _ ⟨j + 1, rfl, by omega, by omega, hs, fun i => ?_⟩ (by simp; omega)
   rw [hm]
   constructor
   ·rintro ⟨a1, a2, a3⟩; exact ⟨a1, by omega, a3⟩
   ·rintro ⟨a1, a2, a3⟩
    refine ⟨a1, ?_, a3⟩
    rcases Nat.lt_succ_iff_lt_or_eq.1 a2 with h | h
    ·exact h
    ·rw [h] at a3; exact absurd a3 hnc
  | true =>
   simp only [Bool.not_true, Bool.false_eq_true, if_false]
   have hc : counts l cl j := h2.1 rfl
   refine refPlace (cl := cl) hlt (by omega) (fun a ha => ?_) hs ?_ F _ ⟨out, [], by simp, rfl, by simp⟩ (by simp; omega)
   ·have := (hm a).1 ha; exact ⟨this.1, by omega⟩
   ·rintro p s rfl hgt hlast
    rw [hnext]
    have hne : ∀ a ∈ p ++ s, a ≠ (j : Int) := fun a ha h => by have := (hm a).1 ha; omega
    have hpl : ∀ a ∈ p, ltAt l a j := by
     intro a ha
     have hlst : ∀ b, p.getLast? = some b → ltAt l b j := fun b hb => by
      have hbm : b ∈ p ++ s := by simp [List.mem_of_getLast? hb]
      have hbc := (hm b).1 hbm
      have := counts_tot hbc.2.2 hc (fun h => by have := hbc.2.1; omega)
      rw [Int.toNat_of_nonneg hbc.1] at this
      exact this.resolve_right (hlast b hb)
     rcases List.eq_nil_or_concat p with rfl | ⟨q, b, rfl⟩
     ·simp at ha
     ·rw [List.concat_eq_append] at *
      have hb := hlst b (by simp)
      rcases List.mem_append.1 ha with ha | ha
      ·have : ltAt l a b := by
        rw [List.append_assoc, List.pairwise_append] at hs
        exact hs.2.2 a ha b (by simp)
       exact ltAt_trans l a b j this hb
      ·simp at ha; subst ha; exact hb
    refine hrec _ _ ⟨j + 1, rfl, by omega, by simp at hlen ⊢; omega, ?_, fun i => ?_⟩ (by simp; omega)
    ·rw [List.pairwise_append] at hs ⊢
     refine ⟨hs.1, ?_, fun a ha b hb => ?_⟩
     ·rw [List.pairwise_cons]; exact ⟨hgt, hs.2.1⟩
     ·rcases List.mem_cons.1 hb with rfl | hb
      ·exact hpl a ha
      ·exact hs.2.2 a ha b hb
    ·have := hm i
     simp only [List.mem_append, List.mem_cons] at this ⊢
     constructor
     ·rintro (h | h | h)
      ·have := this.1 (.inl h); exact ⟨this.1, by omega, this.2.2⟩
      ·subst h; exact ⟨by omega, by simp, by simpa using hc⟩
      ·have := this.1 (.inr h); exact ⟨this.1, by omega, this.2.2⟩
     ·rintro ⟨a1, a2, a3⟩
      by_cases hij : i = (j : Int)
      ·exact .inr (.inl hij)
      ·rcases this.2 ⟨a1, by omega, a3⟩ with h | h
       ·exact .inl h
       ·exact .inr (.inr h)
 ·have d1 : decide ((j : Int) < (l.length : Int)) = false := by simp; omega
  simp only [d1, Bool.false_eq_true, if_false]
  have hcan : IsCanon l cl out := ⟨hs, fun i => by
   rw [hm]
   constructor
   ·rintro ⟨a1, _, a3⟩; exact ⟨a1, a3⟩
   ·rintro ⟨a1, a3⟩; exact ⟨a1, by have := counts_lt a3; omega, a3⟩⟩
  by_cases h3 : 300 < out.length
  ·have : decide ((out.length : Int) > 300) = true := by simp; omega
   simp only [this, if_true]
   refine ⟨_, rfl, ?_⟩
   unfold Canon; rw [if_neg (by omega)]
   exact ⟨out, hcan, by rw [if_pos h3]⟩
  ·have : decide ((out.length : Int) > 300) = false := by simp; omega
   simp only [this, Bool.false_eq_true, if_false]
   refine ⟨_, rfl, ?_⟩
   unfold Canon; rw [if_neg (by omega)]
   exact ⟨out, hcan, by rw [if_neg h3]⟩
theorem refCanonical_s {F : Nat} {l : List Gq3} {cl : List Int} (hb : l.length < 1000000) (hF : l.length < F) : ∃ r, q124q F l cl = some r ∧ Canon l cl r := by
 unfold q124q
 by_cases hl : l.length = cl.length
 ·have : ((cl.length : Int) != (l.length : Int)) = false := by simp; omega
  simp only [this, Bool.false_eq_true, if_false]
  exact refCanon_loop hl hb hF F _ _ ⟨0, rfl, by omega, by simp, by simp, fun i => by simp⟩ (by simpa using hF)
 ·have : ((cl.length : Int) != (l.length : Int)) = true := by simp; omega
  simp only [this, if_true]
  exact ⟨_, rfl, by unfold Canon; rw [if_pos hl]⟩
end Go.Sh
set_option linter.unusedVariables false
set_option linter.unusedSimpArgs false
namespace Go.Sh
open Go.L

def sat (l : List Gq3) (i : Int) : Gq3 := l.getD i.toNat default
def cat (cl : List Int) (i : Int) : Int := cl.getD i.toNat 0
def vat (l : List Gq3) (i : Int) : Prop := 0 ≤ i ∧ okAt l i.toNat
theorem vat_lt {l : List Gq3} {i : Int} (h : vat l i) : i.toNat < l.length := by
 obtain ⟨_, x, h1, _⟩ := h; exact (List.getElem?_eq_some_iff.1 h1).1
theorem vat_idx {l : List Gq3} {i : Int} (h : vat l i) : idx l i = some (sat l i) := by
 have := vat_lt h
 rw [idx_some]; exact ⟨h.1, by simp [sat, this]⟩
theorem vat_cidx {l : List Gq3} {cl : List Int} {i : Int} (h : vat l i) (hl : l.length = cl.length) : idx cl i = some (cat cl i) := by
 have := vat_lt h
 have : i.toNat < cl.length := by omega
 rw [idx_some]; exact ⟨h.1, by simp [cat, this]⟩
theorem vat_get {l : List Gq3} {i : Int} (h : vat l i) : l[i.toNat]? = some (sat l i) := by
 have := vat_lt h; simp [sat, this]
theorem vat_cget {l : List Gq3} {cl : List Int} {i : Int} (h : vat l i) (hl : l.length = cl.length) : cl[i.toNat]? = some (cat cl i) := by
 have := vat_lt h
 have : i.toNat < cl.length := by omega
 simp [cat, this]
def diff (l : List Gq3) (cl : List Int) (i k : Int) : Prop := sat l i ≠ sat l k ∨ cat cl i ≠ cat cl k
def cmpIx (l : List Gq3) (i j : Int) : Int := if cmpId (sat l i) (sat l j) ≠ 0 then cmpId (sat l i) (sat l j) else cmpS i j
theorem cmpIx_lt {l : List Gq3} {i j : Int} : cmpIx l i j < 0 ↔ ((sat l i).Source < (sat l j).Source ∨ (sat l i).Source = (sat l j).Source ∧ ((sat l i).Seq < (sat l j).Seq ∨ (sat l i).Seq = (sat l j).Seq ∧ i < j)) := by
 have h1 := @cmpId_lt (sat l i) (sat l j)
 have h2 := @cmpId_zero (sat l i) (sat l j)
 have h3 := @cmpS_lt i j
 unfold cmpIx; split <;> omega
theorem groups1_s {F : Nat} (hF : 10 ≤ F) {l : List Gq3} {i j : Int} (hi : vat l i) (hj : vat l j) : q144q F i j l = some (cmpIx l i j) := by
 simp only [q144q, vat_idx hi, vat_idx hj, compareId_s hF, compare_s, Option.bind_some]
 rw [or_s (by simp) (by simp; omega)]
 simp only [Option.bind_some, orS, cmpIx]
 repeat' split
 all_goals simp_all

structure Groups (l : List Gq3) (cl : List Int) (T : List Int) (gs : List q1q) : Prop where
 first : ∀ g ∈ gs, g.first ∈ T
 each : ∀ t ∈ T, ∃ g ∈ gs, cmpId (sat l g.first) (sat l t) = 0 ∧ g.first ≤ t
 dsp : ∀ g ∈ gs, (g.disputed = true ↔ ∃ t ∈ T, cmpId (sat l g.first) (sat l t) = 0 ∧ diff l cl g.first t)
 asc : gs.Pairwise fun g h => cmpId (sat l g.first) (sat l h.first) < 0
 len : gs.length ≤ T.length
 last : ∀ g, gs.getLast? = some g → ∀ t ∈ T, ¬ cmpId (sat l g.first) (sat l t) < 0
theorem Groups.new {l : List Gq3} {cl : List Int} {T : List Int} {gs : List q1q} {x : Int} (h : Groups l cl T gs) (hx : ∀ t ∈ T, cmpIx l t x < 0) (hn : ∀ g, gs.getLast? = some g → cmpId (sat l g.first) (sat l x) ≠ 0) : Groups l cl (T ++ [x]) (gs ++ [⟨x, false⟩]) := by
 have hlt : ∀ g ∈ gs, cmpId (sat l g.first) (sat l x) < 0 := by
  intro g hg
  rcases List.eq_nil_or_concat gs with rfl | ⟨gs', g', rfl⟩
  ·simp at hg
  ·rw [List.concat_eq_append] at *
   have h1 : cmpId (sat l g'.first) (sat l x) < 0 := by
    have a1 := hn g' (by simp)
    have a2 := hx g'.first (h.first g' (by simp))
    rw [cmpIx_lt] at a2; rw [cmpId_lt]; have := mt (@cmpId_zero (sat l g'.first) (sat l x)).2 a1; omega
   rcases List.mem_append.1 hg with hg | hg
   ·have := (List.pairwise_append.1 h.asc).2.2 g hg g' (by simp)
    rw [cmpId_lt] at *; omega
   ·simp at hg; subst hg; exact h1
 have htlt : ∀ t ∈ T, cmpId (sat l t) (sat l x) < 0 := by
  intro t ht
  obtain ⟨g, hg, h1, _⟩ := h.each t ht
  have h2 := hlt g hg
  rw [cmpId_zero] at h1; rw [cmpId_lt] at *; omega
 constructor
 ·intro g hg
  rcases List.mem_append.1 hg with hg | hg
  ·simp [h.first g hg]
  ·simp at hg; subst hg; simp
 ·intro t ht
  rcases List.mem_append.1 ht with ht | ht
  ·obtain ⟨g, hg, h1⟩ := h.each t ht; exact ⟨g, by simp [hg], h1⟩
  ·simp at ht; subst ht; exact ⟨⟨t, false⟩, by simp, by simp [cmpId_zero], Int.le_refl _⟩
 ·intro g hg0
  rcases List.mem_append.1 hg0 with hg | hg
  ·rw [h.dsp g hg]
   constructor
   ·rintro ⟨t, ht, h1⟩; exact ⟨t, by simp [ht], h1⟩
   ·rintro ⟨t, ht, h1⟩
    have := hlt g hg
    rcases List.mem_append.1 ht with ht | ht
    ·exact ⟨t, ht, h1⟩
    ·simp at ht; rw [ht] at h1; omega
  ·simp at hg; subst hg
   simp only [Bool.false_eq_true, false_iff]
   rintro ⟨t, ht, h1, h2⟩
   rcases List.mem_append.1 ht with ht | ht
   ·have := htlt t ht; rw [cmpId_zero] at h1; rw [cmpId_lt] at this; omega
   ·simp at ht; subst ht; rcases h2 with h2 | h2 <;> exact h2 rfl
 ·rw [List.pairwise_append]; exact ⟨h.asc, by simp, fun g hg g' hg' => by simp at hg'; subst hg'; exact hlt g hg⟩
 ·simp; exact h.len
 ·intro g hg t ht
  simp at hg; subst hg
  show ¬ cmpId (sat l x) (sat l t) < 0
  rcases List.mem_append.1 ht with ht | ht
  ·have := htlt t ht; rw [cmpId_lt] at *; omega
  ·simp at ht; subst ht; rw [cmpId_lt]; omega
theorem Groups.old {l : List Gq3} {cl : List Int} {T : List Int} {gs : List q1q} {g : q1q} {x : Int} {b : Bool} (h : Groups l cl T (gs ++ [g])) (hx : ∀ t ∈ T, cmpIx l t x < 0) (he : cmpId (sat l g.first) (sat l x) = 0) (hb : b = true ↔ g.disputed = true ∨ diff l cl g.first x) : Groups l cl (T ++ [x]) (gs ++ [⟨g.first, b⟩]) := by
 have hgx : g.first ≤ x := by
  have := hx g.first (h.first g (by simp))
  rw [cmpIx_lt] at this; rw [cmpId_zero] at he; omega
 have hlt : ∀ k ∈ gs, cmpId (sat l k.first) (sat l x) < 0 := fun k hk => by
  have := (List.pairwise_append.1 h.asc).2.2 k hk g (by simp)
  rw [cmpId_zero] at he; rw [cmpId_lt] at *; omega
 constructor
 ·intro k hk
  rcases List.mem_append.1 hk with hk | hk
  ·simp [h.first k (by simp [hk])]
  ·simp at hk; subst hk; simp [h.first g (by simp)]
 ·intro t ht
  rcases List.mem_append.1 ht with ht | ht
  ·obtain ⟨k, hk, h1⟩ := h.each t ht
   rcases List.mem_append.1 hk with hk | hk
   ·exact ⟨k, by simp [hk], h1⟩
   ·simp at hk; subst hk; exact ⟨⟨k.first, b⟩, by simp, h1⟩
  ·simp at ht; subst ht; exact ⟨⟨g.first, b⟩, by simp, he, hgx⟩
 ·intro k hk
  rcases List.mem_append.1 hk with hk | hk
  ·rw [h.dsp k (by simp [hk])]
   constructor
   ·rintro ⟨t, ht, h1⟩; exact ⟨t, by simp [ht], h1⟩
   ·rintro ⟨t, ht, h1⟩
    rcases List.mem_append.1 ht with ht | ht
    ·exact ⟨t, ht, h1⟩
    ·simp at ht; subst ht; have := hlt k hk; omega
  ·simp at hk; subst hk
   show b = true ↔ _
   rw [hb, h.dsp g (by simp)]
   constructor
   ·rintro (⟨t, ht, h1⟩ | h1)
    ·exact ⟨t, by simp [ht], h1⟩
    ·exact ⟨x, by simp, he, h1⟩
   ·rintro ⟨t, ht, h1, h2⟩
    rcases List.mem_append.1 ht with ht | ht
    ·exact .inl ⟨t, ht, h1, h2⟩
    ·simp at ht; subst ht; exact .inr h2
 ·have := h.asc
  rw [List.pairwise_append] at this ⊢
  exact ⟨this.1, by simp, fun k hk g' hg' => by simp at hg'; subst hg'; exact this.2.2 k hk g (by simp)⟩
 ·have := h.len; simp at this ⊢; omega
 ·intro k hk t ht
  simp at hk; subst hk
  rcases List.mem_append.1 ht with ht | ht
  ·exact h.last g (by simp) t ht
  ·simp at ht; subst ht; show ¬ cmpId (sat l g.first) _ < 0; omega

theorem groups_loop {F : Nat} (hF : 10 ≤ F) {l : List Gq3} {cl : List Int} (hl : l.length = cl.length) (hb : l.length < 1000000) {S : List Int} (hS : S.Pairwise fun a b => cmpIx l a b < 0) (hv : ∀ i ∈ S, vat l i) (hSl : S.length ≤ l.length) :
  ∀ n (k : Int) (gs : List q1q), (∃ T U, S = T ++ U ∧ k = (T.length : Int) ∧ Groups l cl T gs) → (S.length - k.toNat) < n → ∃ r, q128q F l cl S n k gs = some r ∧ Groups l cl S r := by
 refine loop2 (L := q128q F l cl S) (B := q141q F l cl S) (fun _ => rfl) _ (fun (k : Int) (_ : List q1q) => S.length - k.toNat) _ ?_
 rintro rec k gs ⟨T, U, hTU, rfl, hG⟩ hrec
 unfold q141q
 cases U with
 | nil =>
  have d1 : decide ((T.length : Int) < (S.length : Int)) = false := by subst hTU; simp
  simp only [d1, Bool.false_eq_true, if_false]
  refine ⟨gs, rfl, ?_⟩
  subst hTU; simpa using hG
 | cons x U =>
  have d1 : decide ((T.length : Int) < (S.length : Int)) = true := by subst hTU; exact dlt T x U
  have hix : idx S (T.length : Int) = some x := by subst hTU; exact idx_at T x U
  have hTl : T.length < 1000000 := by have := congrArg List.length hTU; simp at this; omega
  have hx : ∀ t ∈ T, cmpIx l t x < 0 := fun t ht => by
   rw [hTU] at hS; exact (List.pairwise_append.1 hS).2.2 t ht x (by simp)
  have vx : vat l x := hv x (by rw [hTU]; simp)
  have hgo : ∀ gs', Groups l cl (T ++ [x]) gs' → ∃ r, rec (i64 ((T.length : Int) + 1)) gs' = some r ∧ Groups l cl S r := fun gs' hg' => by
   rw [nxt T x (by omega)]
   refine hrec _ _ ⟨T ++ [x], U, by simp [hTU], rfl, hg'⟩ ?_
   have := congrArg List.length hTU
   simp at this ⊢; omega
  simp only [d1, if_true, hix, Option.bind_some]
  have hgl : gs.length ≤ T.length := hG.len
  rcases List.eq_nil_or_concat gs with rfl | ⟨gs', g, rfl⟩
  ·have : decide (i64 ((([] : List q1q).length : Int) - 1) < 0) = true := by rw [i64_of (by simp) (by simp)]; simp
   simp only [this, if_true, Option.bind_some]
   rw [app_of (by simp)]
   exact hgo _ (hG.new hx (by simp))
  ·rw [List.concat_eq_append] at *
   simp only [List.length_append, List.length_singleton] at hgl
   have hw : i64 (((gs' ++ [g]).length : Int) - 1) = (gs'.length : Int) := by
    simp only [List.length_append, List.length_singleton]
    rw [i64_of (by omega) (by omega)]; omega
   have hgx : idx (gs' ++ [g]) (gs'.length : Int) = some g := idx_at gs' g []
   have hneg : decide ((gs'.length : Int) < 0) = false := by simp
   have vg : vat l g.first := hv _ (by rw [hTU]; simp [hG.first g (by simp)])
   have hap : app (gs' ++ [g]) [q1q.mk x false] = some (gs' ++ [g] ++ [q1q.mk x false]) := app_of (by simp; omega)
   simp only [hw, hneg, hgx, vat_idx vg, vat_idx vx, vat_cidx vg hl, vat_cidx vx hl, compareId_s hF, Bool.false_eq_true, if_false, Option.bind_some, bne_iff_ne, ne_eq, hap]
   by_cases he : cmpId (sat l g.first) (sat l x) = 0
   ·simp only [he, not_true_eq_false, if_false, Bool.not_eq_eq_eq_not, Bool.not_true, decide_eq_false_iff_not]
    have hset : (gs' ++ [g]).set ((gs'.length : Int)).toNat (q1q.mk g.first true) = gs' ++ [q1q.mk g.first true] := by simp
    by_cases hd : sat l g.first = sat l x
    ·simp only [hd, not_true_eq_false, if_false, Option.bind_some, bne_iff_ne, ne_eq]
     by_cases hc : cat cl g.first = cat cl x
     ·simp only [hc, not_true_eq_false, if_false]
      have := hG.old (b := g.disputed) hx he ⟨.inl, fun h => h.elim id fun h => (h.elim (fun h => absurd hd h) fun h => absurd hc h)⟩
      exact hgo _ this
     ·simp only [hc, not_false_eq_true, if_true, hset]
      exact hgo _ (hG.old (b := true) hx he ⟨fun _ => .inr (.inr hc), fun _ => rfl⟩)
    ·simp only [hd, not_false_eq_true, if_true, Option.bind_some, hset]
     exact hgo _ (hG.old (b := true) hx he ⟨fun _ => .inr (.inl hd), fun _ => rfl⟩)
   ·simp only [he, not_false_eq_true, if_true]
    exact hgo _ (hG.new hx (by simpa using he))
theorem groups_first {F : Nat} (hF : 10 ≤ F) {l : List Gq3} {cl : List Int} (hl : l.length = cl.length) (hb : l.length < 1000000) (hFl : l.length < F) :
  ∀ n (k : Int) (acc : List Int), (∃ j : Nat, k = j ∧ j ≤ l.length ∧ acc.length ≤ j ∧ acc.Pairwise (· < ·) ∧ ∀ i, i ∈ acc ↔ vat l i ∧ i < j) → (l.length - k.toNat) < n →
   ∃ r, q127q F l cl n k acc = some r ∧ ∃ S, (∀ i, i ∈ S ↔ vat l i) ∧ S.length ≤ l.length ∧ Groups l cl S r := by
 refine loop2 (L := q127q F l cl) (B := q140q F l cl) (fun _ => rfl) _ (fun (k : Int) (_ : List Int) => l.length - k.toNat) _ ?_
 rintro rec k acc ⟨j, rfl, hj, hlen, hs, hm⟩ hrec
 unfold q140q
 by_cases hlt : j < l.length
 ·have d1 : decide ((j : Int) < (l.length : Int)) = true := by simp; exact hlt
  have hnext : i64 ((j : Int) + 1) = ((j + 1 : Nat) : Int) := by rw [i64_of (by omega) (by omega)]; rfl
  simp only [d1, if_true, idx_lt hlt, valid_s, Option.bind_some]
  by_cases hg : l[j].good = true
  ·simp only [hg, if_true]
   rw [app_of (by simp; omega)]
   simp only [Option.bind_some, hnext]
   refine hrec _ _ ⟨j + 1, rfl, by omega, by simp; omega, ?_, fun i => ?_⟩ (by simp; omega)
   ·rw [List.pairwise_append]; exact ⟨hs, by simp, fun a ha b hb => by simp at hb; subst hb; exact ((hm a).1 ha).2⟩
   ·simp only [List.mem_append, List.mem_singleton, hm]
    constructor
    ·rintro (⟨h1, h2⟩ | rfl)
     ·exact ⟨h1, by omega⟩
     ·exact ⟨⟨by omega, by simpa using (okAt_lt hlt).2 hg⟩, by omega⟩
    ·rintro ⟨h1, h2⟩
     by_cases h : i = (j : Int)
     ·exact .inr h
     ·exact .inl ⟨h1, by omega⟩
  ·simp only [bF hg, Bool.false_eq_true, if_false, hnext]
   refine hrec _ _ ⟨j + 1, rfl, by omega, by omega, hs, fun i => ?_⟩ (by simp; omega)
   rw [hm]
   constructor
   ·rintro ⟨h1, h2⟩; exact ⟨h1, by omega⟩
   ·rintro ⟨h1, h2⟩
    refine ⟨h1, ?_⟩
    by_cases h : i = (j : Int)
    ·subst h; exact absurd ((okAt_lt hlt).1 (by simpa using h1.2)) hg
    ·omega
 ·have d1 : decide ((j : Int) < (l.length : Int)) = false := by simp; omega
  simp only [d1, Bool.false_eq_true, if_false]
  have hv : ∀ i, i ∈ acc ↔ vat l i := fun i => by
   rw [hm]
   constructor
   ·exact fun h => h.1
   ·intro h; refine ⟨h, ?_⟩; have := vat_lt h; have := h.1; omega
  obtain ⟨S, h1, h2, h3⟩ := sortF_by (c := fun a0 a1 => q144q F a0 a1 l) (xs := acc) (cmpIx l) (by omega) (fun x hx y hy => groups1_s hF ((hv x).1 hx) ((hv y).1 hy)) (fun x _ => by rw [cmpIx_lt]; omega)
   (fun x _ y _ z _ a b => by rw [cmpIx_lt] at *; omega) (fun x _ y _ z _ a b => by rw [cmpIx_lt] at *; omega) (hs.imp fun {a b} h => by simp only [cmpIx_lt]; omega)
  simp only [h1, Option.bind_some]
  have hSv : ∀ i, i ∈ S ↔ vat l i := fun i => by rw [h2.mem_iff, hv]
  have hSl : S.length ≤ l.length := by rw [h2.length_eq]; omega
  obtain ⟨r, h4, h5⟩ := groups_loop hF hl hb h3 (fun i hi => (hSv i).1 hi) hSl F 0 [] ⟨[], S, rfl, rfl, ⟨by simp, by simp, by simp, by simp, by simp, by simp⟩⟩ (by simp; omega)
  exact ⟨r, h4, S, hSv, hSl, h5⟩
structure AllGroups (l : List Gq3) (cl : List Int) (gs : List q1q) : Prop where
 first : ∀ g ∈ gs, vat l g.first
 each : ∀ t, vat l t → ∃ g ∈ gs, cmpId (sat l g.first) (sat l t) = 0 ∧ g.first ≤ t
 dsp : ∀ g ∈ gs, (g.disputed = true ↔ ∃ t, vat l t ∧ cmpId (sat l g.first) (sat l t) = 0 ∧ diff l cl g.first t)
 asc : gs.Pairwise fun g h => cmpId (sat l g.first) (sat l h.first) < 0
 len : gs.length ≤ l.length
theorem groups_s {F : Nat} (hF : 10 ≤ F) {l : List Gq3} {cl : List Int} (hl : l.length = cl.length) (hb : l.length < 1000000) (hFl : l.length < F) : ∃ gs, q207q F l cl = some gs ∧ AllGroups l cl gs := by
 obtain ⟨r, h1, S, h2, h3, h4⟩ := groups_first hF hl hb hFl F 0 [] ⟨0, rfl, by omega, by simp, by simp, fun i => by simp [vat]; omega⟩ (by simpa using hFl)
 refine ⟨r, h1, fun g hg => (h2 _).1 (h4.first g hg), fun t ht => h4.each t ((h2 t).2 ht), fun g hg => ?_, h4.asc, Nat.le_trans h4.len h3⟩
 rw [h4.dsp g hg]
 simp only [h2]
end Go.Sh
set_option linter.unusedVariables false
set_option linter.unusedSimpArgs false
namespace Go.Sh
open Go.L

theorem counts_iff {l : List Gq3} {cl : List Int} {gs : List q1q} (hl : l.length = cl.length) (hG : AllGroups l cl gs) (i : Int) : (0 ≤ i ∧ counts l cl i.toNat) ↔ ∃ g ∈ gs, g.disputed = false ∧ g.first = i := by
 have hdisp : ∀ a b : Int, vat l a → vat l b → (disp l cl a.toNat b.toNat ↔ cmpId (sat l a) (sat l b) = 0 ∧ ((sat l a).Time ≠ (sat l b).Time ∨ cat cl a ≠ cat cl b)) := fun a b ha hb => by
  unfold disp sid
  rw [cmpId_zero, vat_get ha, vat_get hb, vat_cget ha hl, vat_cget hb hl]
  simp only [Option.some.injEq]
  constructor
  ·rintro ⟨x, y, c, d, rfl, rfl, rfl, rfl, h⟩; exact h
  ·intro h; exact ⟨_, _, _, _, rfl, rfl, rfl, rfl, h⟩
 have heq : ∀ x y : Gq3, cmpId x y = 0 → (x = y ↔ x.Time = y.Time) := fun x y h => by
  rw [cmpId_zero] at h
  cases x; cases y; simp at h ⊢; simp [h]
 constructor
 ·rintro ⟨h0, hc⟩
  have hv : vat l i := ⟨h0, hc.1⟩
  obtain ⟨g, hg, h1, h2⟩ := hG.each i hv
  have vg := hG.first g hg
  have hnd : ∀ t, vat l t → ¬ (cmpId (sat l i) (sat l t) = 0 ∧ ((sat l i).Time ≠ (sat l t).Time ∨ cat cl i ≠ cat cl t)) := fun t ht h => (hc.2 t.toNat ht.2).1 ((hdisp i t hv ht).2 h)
  have h1' : cmpId (sat l i) (sat l g.first) = 0 := by rw [cmpId_zero] at *; omega
  have hgi : g.first = i := by
   by_cases hlt : g.first < i
   ·have a1 := hnd _ vg
    have a2 : sat l g.first = sat l i := (heq _ _ h1).2 (Decidable.byContradiction fun hne => a1 ⟨h1', .inl fun h => hne h.symm⟩)
    have a3 := (hc.2 g.first.toNat vg.2).2 (by have := vg.1; omega)
    rw [vat_get vg, vat_get hv, a2] at a3
    exact absurd rfl a3
   ·omega
  refine ⟨g, hg, ?_, hgi⟩
  cases hd : g.disputed with
  | false => rfl
  | true =>
   obtain ⟨t, ht, b1, b2⟩ := (hG.dsp g hg).1 hd
   rw [hgi] at b1 b2
   refine absurd ?_ (hnd t ht)
   refine ⟨b1, ?_⟩
   rcases b2 with b2 | b2
   ·exact .inl fun h => b2 ((heq _ _ b1).2 h)
   ·exact .inr b2
 ·rintro ⟨g, hg, hd, rfl⟩
  have vg := hG.first g hg
  refine ⟨vg.1, vg.2, fun k hk => ?_⟩
  have vk : vat l (k : Int) := ⟨by omega, by simpa using hk⟩
  constructor
  ·intro h
   have h' := (hdisp g.first k vg vk).1 (by simpa using h)
   have : g.disputed = true := (hG.dsp g hg).2 ⟨k, vk, h'.1, by
    rcases h'.2 with h | h
    ·exact .inl fun he => h (by rw [he])
    ·exact .inr h⟩
   rw [hd] at this; cases this
  ·intro hlt he
   have he' : sat l k = sat l g.first := by
    have := vat_get vk
    simp only [Int.toNat_natCast] at this
    rw [this, vat_get vg] at he; exact Option.some.inj he
   obtain ⟨g', hg', h1, h2⟩ := hG.each k vk
   have hgg : cmpId (sat l g'.first) (sat l g.first) = 0 := by rw [← he']; exact h1
   have : g' = g := by
    by_cases h : g' = g
    ·exact h
    ·have ha := hG.asc
     have : cmpId (sat l g'.first) (sat l g.first) < 0 ∨ cmpId (sat l g.first) (sat l g'.first) < 0 := by
      obtain ⟨a, ha'⟩ := List.mem_iff_getElem.1 hg'
      obtain ⟨b, hb'⟩ := List.mem_iff_getElem.1 hg
      rw [List.pairwise_iff_getElem] at ha
      obtain ⟨la, rfl⟩ := ha'
      obtain ⟨lb, rfl⟩ := hb'
      rcases Nat.lt_trichotomy a b with h3 | h3 | h3
      ·exact .inl (ha a b la lb h3)
      ·subst h3; exact absurd rfl h
      ·exact .inr (ha b a lb la h3)
     rw [cmpId_zero] at hgg; rw [cmpId_lt, cmpId_lt] at this; omega
   subst this
   have := vg.1; omega
theorem canon1_s {F : Nat} (hF : 10 ≤ F) {l : List Gq3} {i j : Int} (hi : vat l i) (hj : vat l j) : q103q F i j l = some (cmpSt (sat l i) (sat l j)) := by
 simp only [q103q, vat_idx hi, vat_idx hj, stampCompare_s hF, Option.bind_some]
def firsts (gs : List q1q) : List Int := (gs.filter fun g => !g.disputed).map (·.first)
theorem firsts_len (gs : List q1q) : (firsts gs).length ≤ gs.length := by
 unfold firsts; rw [List.length_map]; exact List.length_filter_le _ _
theorem canonical_loop {F : Nat} (hF : 10 ≤ F) {l : List Gq3} {cl : List Int} (hl : l.length = cl.length) (hb : l.length < 1000000) {gs : List q1q} (hG : AllGroups l cl gs) :
  ∀ n (k : Int) (acc : List Int), (∃ p s, gs = p ++ s ∧ k = (p.length : Int) ∧ acc = firsts p) → (gs.length - k.toNat) < n → ∃ r, q79q F l gs n k acc = some r ∧ Canon l cl r := by
 refine loop2 (L := q79q F l gs) (B := q100q F l gs) (fun _ => rfl) _ (fun (k : Int) (_ : List Int) => gs.length - k.toNat) _ ?_
 rintro rec k acc ⟨p, s, hps, rfl, rfl⟩ hrec
 unfold q100q
 have hgl := hG.len
 have hpl : p.length ≤ gs.length := by rw [hps]; simp
 have hfl := firsts_len p
 cases s with
 | cons g s =>
  have d1 : decide ((p.length : Int) < (gs.length : Int)) = true := by rw [hps]; exact dlt p g s
  have hix : idx gs (p.length : Int) = some g := by rw [hps]; exact idx_at p g s
  have hm : gs.length - ((p ++ [g]).length : Int).toNat < gs.length - (p.length : Int).toNat := by
   have := congrArg List.length hps; simp at this ⊢; omega
  simp only [d1, if_true, hix, Option.bind_some, nxt p g (by omega)]
  cases hd : g.disputed with
  | false =>
   simp only [Bool.not_false, if_true]
   rw [app_of (by simp; omega)]
   exact hrec _ _ ⟨p ++ [g], s, by simp [hps], rfl, by simp [firsts, hd]⟩ hm
  | true =>
   simp only [Bool.not_true, Bool.false_eq_true, if_false]
   exact hrec _ _ ⟨p ++ [g], s, by simp [hps], rfl, by simp [firsts, hd]⟩ hm
 | nil =>
  have hpg : gs = p := by simpa using hps
  subst hpg
  have d1 : decide ((gs.length : Int) < (gs.length : Int)) = false := by simp
  simp only [d1, Bool.false_eq_true, if_false]
  have hmem : ∀ i, i ∈ firsts gs ↔ 0 ≤ i ∧ counts l cl i.toNat := fun i => by
   rw [counts_iff hl hG]
   simp only [firsts, List.mem_map, List.mem_filter, Bool.not_eq_eq_eq_not, Bool.not_true]
   constructor
   ·rintro ⟨g, ⟨h1, h2⟩, h3⟩; exact ⟨g, h1, h2, h3⟩
   ·rintro ⟨g, h1, h2, h3⟩; exact ⟨g, ⟨h1, h2⟩, h3⟩
  have hvat : ∀ i ∈ firsts gs, vat l i := fun i hi => by have := (hmem i).1 hi; exact ⟨this.1, this.2.1⟩
  have hnd : (firsts gs).Pairwise fun a b => a ≠ b := by
   unfold firsts
   rw [List.pairwise_map]
   refine (hG.asc.filter _).imp fun {a b} h he => ?_
   rw [he, cmpId_lt] at h; omega
  have hlt : ∀ i j, vat l i → vat l j → (cmpSt (sat l i) (sat l j) < 0 ↔ ltAt l i j) := fun i j hi hj => by
   unfold ltAt; rw [vat_get hi, vat_get hj]
   constructor
   ·intro h; exact ⟨_, _, rfl, rfl, h⟩
   ·rintro ⟨x, y, h1, h2, h3⟩; cases h1; cases h2; exact h3
  obtain ⟨a, h1, h2, h3⟩ := sortF_by (c := fun a0 a1 => q103q F a0 a1 l) (xs := firsts gs) (fun i j => cmpSt (sat l i) (sat l j)) (by omega) (fun x hx y hy => canon1_s hF (hvat x hx) (hvat y hy)) (fun x _ => by rw [cmpSt_lt]; omega)
   (fun x _ y _ z _ p q => by rw [cmpSt_lt] at *; omega) (fun x _ y _ z _ p q => by rw [cmpSt_lt] at *; omega) (List.Pairwise.imp_of_mem (fun {x y} hx hy hne => by
    have cx := (hmem x).1 hx
    have cy := (hmem y).1 hy
    have := counts_tot cx.2 cy.2 (fun h => hne (by omega))
    rw [Int.toNat_of_nonneg cx.1, Int.toNat_of_nonneg cy.1, ← hlt x y (hvat x hx) (hvat y hy), ← hlt y x (hvat y hy) (hvat x hx)] at this
    exact this) hnd)
  have hcan : IsCanon l cl a := ⟨List.Pairwise.imp_of_mem (fun {x y} hx hy h => (hlt x y (hvat x (h2.mem_iff.1 hx)) (hvat y (h2.mem_iff.1 hy))).1 h) h3, fun i => by rw [h2.mem_iff]; exact hmem i⟩
  have hlen : (firsts gs).length = a.length := h2.length_eq.symm
  by_cases h300 : 300 < a.length
  ·have : decide (((firsts gs).length : Int) > 300) = true := by simp; omega
   simp only [this, if_true]
   refine ⟨_, rfl, ?_⟩
   unfold Canon; rw [if_neg (by omega)]
   exact ⟨a, hcan, by rw [if_pos h300]⟩
  ·have : decide (((firsts gs).length : Int) > 300) = false := by simp; omega
   simp only [this, Bool.false_eq_true, if_false, h1, Option.bind_some]
   refine ⟨_, rfl, ?_⟩
   unfold Canon; rw [if_neg (by omega)]
   exact ⟨a, hcan, by rw [if_neg h300]⟩
theorem canonical_s {F : Nat} (hF : 10 ≤ F) {l : List Gq3} {cl : List Int} (hb : l.length < 1000000) (hFl : l.length < F) : ∃ r, q126q F l cl = some r ∧ Canon l cl r := by
 unfold q126q
 by_cases hl : l.length = cl.length
 ·have : ((l.length : Int) != (cl.length : Int)) = false := by simp; omega
  simp only [this, Bool.false_eq_true, if_false]
  obtain ⟨gs, h1, h2⟩ := groups_s hF hl hb hFl
  simp only [h1, Option.bind_some]
  have := h2.len
  exact canonical_loop hF hl hb h2 F 0 [] ⟨[], gs, rfl, rfl, rfl⟩ (by simp; omega)
 ·have : ((l.length : Int) != (cl.length : Int)) = true := by simp; omega
  simp only [this, if_true]
  exact ⟨_, rfl, by unfold Canon; rw [if_pos hl]⟩
end Go.Sh
set_option linter.unusedVariables false
set_option linter.unusedSimpArgs false
namespace Go.Sh
open Go.L

def okB (l : List Gq3) (i : Nat) : Bool := match l[i]? with | some x => x.good | .none => false
theorem okB_iff {l : List Gq3} {i : Nat} : okB l i = true ↔ okAt l i := by
 unfold okB okAt; cases l[i]? <;> simp
def dispB (l : List Gq3) (cl : List Int) (i k : Nat) : Bool := match l[i]?, l[k]?, cl[i]?, cl[k]? with
 | some x, some y, some c, some d => decide (x.Source = y.Source) && decide (x.Seq = y.Seq) && (decide (x.Time ≠ y.Time) || decide (c ≠ d))
 | _, _, _, _ => false
theorem dispB_iff {l : List Gq3} {cl : List Int} {i k : Nat} : dispB l cl i k = true ↔ disp l cl i k := by
 unfold dispB disp sid
 cases l[i]? with
 | none => simp
 | some x => cases l[k]? with
  | none => simp
  | some y => cases cl[i]? with
   | none => simp
   | some c => cases cl[k]? with
    | none => simp
    | some d => simp [and_assoc]
def countsB (l : List Gq3) (cl : List Int) (i : Nat) : Bool := okB l i && (List.range l.length).all fun k => !okB l k || (!dispB l cl i k && (!decide (k < i) || decide (l[k]? ≠ l[i]?)))
theorem countsB_iff {l : List Gq3} {cl : List Int} {i : Nat} : countsB l cl i = true ↔ counts l cl i := by
 unfold countsB counts
 simp only [Bool.and_eq_true, okB_iff, List.all_eq_true, List.mem_range, Bool.or_eq_true, Bool.not_eq_true', decide_eq_true_eq, decide_eq_false_iff_not]
 constructor
 ·rintro ⟨h1, h2⟩
  refine ⟨h1, fun k hk => ?_⟩
  have hkl : k < l.length := by
   by_cases h : k < l.length
   ·exact h
   ·exact absurd hk (okAt_ge (by omega))
  rcases h2 k hkl with h | ⟨h3, h4⟩
  ·have := okB_iff.2 hk; rw [h] at this; cases this
  ·refine ⟨fun h => ?_, fun h => h4.resolve_left (by omega)⟩
   have := dispB_iff.2 h; rw [h3] at this; cases this
 ·rintro ⟨h1, h2⟩
  refine ⟨h1, fun k hk => ?_⟩
  cases hok : okB l k with
  | false => exact .inl rfl
  | true =>
   right
   have := h2 k (okB_iff.1 hok)
   refine ⟨?_, ?_⟩
   ·cases hd : dispB l cl i k with
    | false => rfl
    | true => exact absurd (dispB_iff.1 hd) this.1
   ·by_cases h : k < i
    ·exact .inr (this.2 h)
    ·exact .inl h
def ltB (l : List Gq3) (a b : Int) : Bool := match l[a.toNat]?, l[b.toNat]? with
 | some x, some y => decide (cmpSt x y < 0)
 | _, _ => false
theorem ltB_iff {l : List Gq3} {a b : Int} : ltB l a b = true ↔ ltAt l a b := by
 unfold ltB ltAt
 cases l[a.toNat]? with
 | none => simp
 | some x => cases l[b.toNat]? with
  | none => simp
  | some y => simp
def canonL (l : List Gq3) (cl : List Int) : List Int := isort (ltB l) (((List.range l.length).filter (countsB l cl)).map Int.ofNat)
theorem canonL_is (l : List Gq3) (cl : List Int) : IsCanon l cl (canonL l cl) := by
 have hmem : ∀ i, i ∈ ((List.range l.length).filter (countsB l cl)).map Int.ofNat ↔ 0 ≤ i ∧ counts l cl i.toNat := fun i => by
  simp only [List.mem_map, List.mem_filter, List.mem_range, countsB_iff]
  constructor
  ·rintro ⟨k, ⟨h1, h2⟩, rfl⟩; exact ⟨by simp, by simpa using h2⟩
  ·rintro ⟨h1, h2⟩; exact ⟨i.toNat, ⟨counts_lt h2, h2⟩, by simp; omega⟩
 constructor
 ·have := sorted_isort (lt := ltB l) (l := ((List.range l.length).filter (countsB l cl)).map Int.ofNat) (fun a _ b _ c _ h1 h2 => by rw [ltB_iff] at *; exact ltAt_trans l a b c h1 h2) (by
   rw [List.pairwise_map]
   refine List.Pairwise.imp_of_mem (fun {a b} ha hb hab => ?_) ((List.pairwise_lt_range (n := l.length)).filter _)
   rw [ltB_iff, ltB_iff]
   simp only [List.mem_filter, countsB_iff] at ha hb
   exact counts_tot ha.2 hb.2 (by omega))
  exact this.imp fun h => ltB_iff.1 h
 ·intro i
  rw [canonL, perm_isort.mem_iff]; exact hmem i
def canonS (l : List Gq3) (cl : List Int) : List Int × Int := if l.length ≠ cl.length then ([], 1) else if 300 < (canonL l cl).length then ([], 3) else (canonL l cl, 0)
theorem canonS_is (l : List Gq3) (cl : List Int) : Canon l cl (canonS l cl) := by
 unfold Canon canonS
 split
 ·rfl
 ·exact ⟨canonL l cl, canonL_is l cl, rfl⟩
theorem canonical_e {F : Nat} (hF : 10 ≤ F) {l : List Gq3} {cl : List Int} (hb : l.length < 1000000) (hFl : l.length < F) : q126q F l cl = some (canonS l cl) := by
 obtain ⟨r, h1, h2⟩ := canonical_s hF (cl := cl) hb hFl
 rw [h1, h2.unique (canonS_is l cl)]
theorem refCanonical_e {F : Nat} {l : List Gq3} {cl : List Int} (hb : l.length < 1000000) (hFl : l.length < F) : q124q F l cl = some (canonS l cl) := by
 obtain ⟨r, h1, h2⟩ := refCanonical_s (cl := cl) hb hFl
 rw [h1, h2.unique (canonS_is l cl)]
structure Tp (t : GTape) : Prop where
 len : t.L.length ≤ 600
 lo : 0 ≤ t.At
 hi : t.At ≤ 600
theorem new_s (l : List Int) : ∃ t, make_New l = some t ∧ Tp t := by
 unfold make_New
 by_cases h : (l.length : Int) > 600
 ·simp only [h, decide_true, if_true]
  rw [show (600 : Int) = ((600 : Nat) : Int) from rfl, slc_take (by omega)]
  exact ⟨_, rfl, ⟨by simp; omega, by simp, by simp⟩⟩
 ·simp only [h, decide_false, Bool.false_eq_true, if_false]
  exact ⟨_, rfl, ⟨by simp; omega, by simp, by simp⟩⟩
theorem raw_s {t : GTape} (h : Tp t) : ∃ x t', Gq25 t = some (x, t') ∧ Tp t' := by
 have h1 := h.len; have h2 := h.lo; have h3 := h.hi
 unfold Gq25
 by_cases hc : t.At ≥ (t.L.length : Int)
 ·simp only [hc, decide_true, if_true]; exact ⟨_, _, rfl, h⟩
 ·simp only [hc, decide_false, Bool.false_eq_true, if_false]
  rw [i64_of (n := t.At + 1) (by omega) (by omega), i64_of (by omega) (by omega)]
  have hx : idx t.L (t.At + 1 - 1) = some t.L[t.At.toNat] := by
   rw [idx_some, show t.At + 1 - 1 = t.At by omega]
   exact ⟨h2, by simp⟩
  rw [hx]
  exact ⟨_, _, rfl, ⟨h1, by simp; omega, by simp; omega⟩⟩
theorem cut_s (x n : Int) (hn : n ≤ 1000000000) : ∃ r, make_Cut x n = some r ∧ 0 ≤ r ∧ (1 ≤ n → r < n) ∧ (n < 1 → r = 0) := by
 unfold make_Cut
 by_cases h : n < 1
 ·simp only [h, decide_true, if_true]; exact ⟨0, rfl, by omega, by omega, by omega⟩
 ·simp only [h, decide_false, Bool.false_eq_true, if_false]
  have hr : rmd x n = some (x.tmod n) := by unfold rmd; rw [if_neg (by omega)]
  simp only [hr, Option.bind_some]
  have b1 : x.tmod n < n := Int.tmod_lt_of_pos x (by omega)
  have b2 : -n < x.tmod n := by
   have := Int.lt_tmod_of_pos x (show 0 < n by omega)
   omega
  by_cases h0 : x.tmod n < 0
  ·simp only [h0, decide_true, if_true]
   rw [i64_of (by omega) (by omega)]
   exact ⟨_, rfl, by omega, fun _ => by omega, fun hh => hh.elim⟩
  ·simp only [h0, decide_false, Bool.false_eq_true, if_false]
   exact ⟨_, rfl, by omega, fun _ => by omega, fun hh => hh.elim⟩
theorem next_s {t : GTape} (h : Tp t) (n : Int) (hn : n ≤ 1000000000) : ∃ x t', Gq17 t n = some (x, t') ∧ Tp t' ∧ 0 ≤ x ∧ (1 ≤ n → x < n) ∧ (n < 1 → x = 0) := by
 obtain ⟨x, t', h1, h2⟩ := raw_s h
 obtain ⟨r, h3, h4⟩ := cut_s x n hn
 exact ⟨r, t', by simp [Gq17, h1, h3], h2, h4⟩
theorem range_s {t : GTape} (h : Tp t) (a b : Int) (ha : -1000 ≤ a) (hab : a ≤ b) (hb : b ≤ 100000000) : ∃ x t', Gq23 t a b = some (x, t') ∧ Tp t' ∧ a ≤ x ∧ x ≤ b := by
 obtain ⟨x, t', h1, h2, h3, h4, _⟩ := next_s h (b - a + 1) (by omega)
 refine ⟨a + x, t', ?_, h2, by omega, by have := h4 (by omega); omega⟩
 have := h4 (by omega)
 simp only [Gq23]
 rw [i64_of (n := b - a) (by omega) (by omega), i64_of (n := b - a + 1) (by omega) (by omega), h1]
 simp only [Option.bind_some]
 rw [i64_of (by omega) (by omega)]
theorem one_s {t : GTape} (h : Tp t) (n : Int) (hn : n ≤ 1000000000) : ∃ b t', Gq19 t n = some (b, t') ∧ Tp t' := by
 obtain ⟨x, t', h1, h2, _⟩ := next_s h n hn
 exact ⟨(x == i64 (n - 1)), t', by simp only [Gq19, h1, Option.bind_some], h2⟩
theorem pick_s {t : GTape} (h : Tp t) (l : List Int) (hl : 1 ≤ l.length) (hl2 : l.length ≤ 1000) : ∃ x t', Gq21 t l = some (x, t') ∧ Tp t' ∧ x ∈ l := by
 obtain ⟨x, t', h1, h2, h3, h4, _⟩ := next_s h l.length (by omega)
 have := h4 (by omega)
 have hx : idx l x = some l[x.toNat] := by rw [idx_some]; exact ⟨h3, by simp⟩
 exact ⟨l[x.toNat], t', by simp only [Gq21, h1, Option.bind_some, hx], h2, by simp⟩
theorem wild_s {t : GTape} (h : Tp t) : ∃ x t', Gq33 t = some (x, t') ∧ Tp t' := by
 obtain ⟨x, t', h1, h2, _⟩ := pick_s h [(-1), 0, 1, 2, 31, 32, 99, 100, 200, 201, 9999, 10000, 1000000, 1000001, 1152921504606846976, 1152921504606846977, (-1152921504606846976), 9223372036854775807, (-9223372036854775808)] (by simp) (by simp)
 exact ⟨x, t', by simp only [Gq33, h1, Option.bind_some], h2⟩
theorem tp_mk {t : GTape} (h : Tp t) : Tp (GTape.mk t.L t.At) := h
theorem tstamp_s {t : GTape} (h : Tp t) (n : Int) (hn : n ≤ 1000000) : ∃ x t', Gq31 t n = some (x, t') ∧ Tp t' := by
 obtain ⟨a, t1, a1, a2, _⟩ := range_s h 0 24 (by omega) (by omega) (by omega)
 obtain ⟨b, t2, b1, b2, _⟩ := range_s a2 0 3 (by omega) (by omega) (by omega)
 obtain ⟨c, t3, c1, c2, _⟩ := range_s b2 0 9 (by omega) (by omega) (by omega)
 simp only [Gq31, a1, b1, c1, Option.bind_some]
 by_cases hp : n > 0
 ·obtain ⟨d, t4, d1, d2⟩ := one_s c2 n (by omega)
  simp only [hp, decide_true, if_true, d1, Option.bind_some]
  cases d with
  | false => exact ⟨_, _, rfl, tp_mk d2⟩
  | true =>
   obtain ⟨e, t5, e1, e2, _⟩ := next_s (tp_mk d2) 3 (by omega)
   obtain ⟨w, t6, w1, w2⟩ := wild_s e2
   simp only [if_true, e1, w1, Option.bind_some]
   split
   ·exact ⟨_, _, rfl, w2⟩
   ·split
    ·exact ⟨_, _, rfl, w2⟩
    ·exact ⟨_, _, rfl, w2⟩
 ·simp only [hp, decide_false, Bool.false_eq_true, if_false, Option.bind_some]
  exact ⟨_, _, rfl, tp_mk c2⟩
end Go.Sh
set_option linter.unusedVariables false
set_option linter.unusedSimpArgs false
namespace Go.Sh
open Go.L

def SetC {E : Type} (st : E → Gq3) (l : List E) (e : E) : Prop := e ∈ l ∧ (st e).good = true ∧ ∀ e' ∈ l, (st e').good = true → sid (st e') (st e) → e' = e
structure IsEv {E : Type} (st : E → Gq3) (l C : List E) : Prop where
 sorted : C.Pairwise fun a b => cmpSt (st a) (st b) < 0
 mem : ∀ e, e ∈ C ↔ SetC st l e
theorem IsEv.unique {E : Type} {st : E → Gq3} {l C D : List E} (h : IsEv st l C) (h' : IsEv st l D) : C = D :=
 sorted_ext (R := fun a b => cmpSt (st a) (st b) < 0) (fun a h => by rw [cmpSt_lt] at h; omega) (fun a b c h1 h2 => by rw [cmpSt_lt] at *; omega) h.sorted h'.sorted fun e => by rw [h.mem, h'.mem]
theorem SetC.congr {E : Type} {st : E → Gq3} {l m : List E} (h : ∀ e, e ∈ l ↔ e ∈ m) (e : E) : SetC st l e ↔ SetC st m e := by
 unfold SetC; simp only [h]
theorem IsEv.congr {E : Type} {st : E → Gq3} {l m C : List E} (h : ∀ e, e ∈ l ↔ e ∈ m) (hC : IsEv st l C) : IsEv st m C :=
 ⟨hC.sorted, fun e => by rw [hC.mem, SetC.congr h]⟩
structure ClsOk {E : Type} (st : E → Gq3) (l : List E) (cl : List Int) : Prop where
 len : l.length = cl.length
 iff : ∀ (i : Nat) (x : E) (c : Int), l[i]? = some x → cl[i]? = some c →
  ((∀ (k : Nat) (y : E) (d : Int), l[k]? = some y → cl[k]? = some d → st y = st x → d = c) ↔ (∀ y ∈ l, st y = st x → y = x))
theorem stamp_ext {x y : Gq3} (h1 : x.Time = y.Time) (h2 : x.Source = y.Source) (h3 : x.Seq = y.Seq) : x = y := by
 cases x; cases y; simp_all
theorem counts_set {E : Type} {st : E → Gq3} {l : List E} {cl : List Int} (h : ClsOk st l cl) {i : Nat} {x : E} (hx : l[i]? = some x) :
  counts (l.map st) cl i ↔ SetC st l x ∧ ∀ k, k < i → l[k]? ≠ some x := by
 have hi : i < l.length := (List.getElem?_eq_some_iff.1 hx).1
 have hi' : i < cl.length := by have := h.len; omega
 obtain ⟨c, hc⟩ : ∃ c, cl[i]? = some c := ⟨cl[i], by simp [hi']⟩
 have key := h.iff i x c hx hc
 have hix : (l.map st)[i]? = some (st x) := by simp [hx]
 have hcl : ∀ (k : Nat) (y : E), l[k]? = some y → ∃ d, cl[k]? = some d := fun k y hy => by
  have : k < l.length := (List.getElem?_eq_some_iff.1 hy).1
  have hk : k < cl.length := by have := h.len; omega
  exact ⟨cl[k], by simp [hk]⟩
 constructor
 ·rintro ⟨⟨x', h1, h2⟩, h3⟩
  rw [hix] at h1; cases h1
  have hall : ∀ (k : Nat) (y : E) (d : Int), l[k]? = some y → cl[k]? = some d → (st y).good = true → sid (st y) (st x) → (st y).Time = (st x).Time ∧ d = c := fun k y d hy hd hg hs => by
   have hk : (l.map st)[k]? = some (st y) := by simp [hy]
   have := (h3 k ⟨st y, hk, hg⟩).1
   apply Classical.byContradiction
   intro hn
   refine this ⟨st x, st y, c, d, hix, hk, hc, hd, ⟨hs.1.symm, hs.2.symm⟩, ?_⟩
   by_cases ht : (st x).Time = (st y).Time
   ·exact .inr fun hcd => hn ⟨ht.symm, hcd.symm⟩
   ·exact .inl ht
  have heq : ∀ y ∈ l, st y = st x → y = x := key.1 fun k y d hy hd hs => (hall k y d hy hd (by rw [hs]; exact h2) (by rw [hs]; exact ⟨rfl, rfl⟩)).2
  refine ⟨⟨List.mem_of_getElem? hx, h2, fun y hy hg hs => ?_⟩, fun k hk hkx => ?_⟩
  ·obtain ⟨k, hk⟩ := List.getElem?_of_mem hy
   obtain ⟨d, hd⟩ := hcl k y hk
   exact heq y hy (stamp_ext (hall k y d hk hd hg hs).1 hs.1 hs.2)
  ·have hkk : (l.map st)[k]? = some (st x) := by simp [hkx]
   exact (h3 k ⟨st x, hkk, h2⟩).2 hk (by rw [hkk, hix])
 ·rintro ⟨⟨h1, h2, h3⟩, h4⟩
  refine ⟨⟨st x, hix, h2⟩, fun k hk => ⟨?_, fun hki he => ?_⟩⟩
  ·rintro ⟨x', y', c', d, a1, a2, a3, a4, a5, a6⟩
   rw [hix] at a1; cases a1
   rw [hc] at a3; cases a3
   simp only [List.getElem?_map, Option.map_eq_some_iff] at a2
   obtain ⟨y, hy, rfl⟩ := a2
   have hgy : (st y).good = true := by
    obtain ⟨z, b1, b2⟩ := hk
    simp only [List.getElem?_map, hy, Option.map_some, Option.some.injEq] at b1
    rw [b1]; exact b2
   have hyx : y = x := h3 y (List.mem_of_getElem? hy) hgy ⟨a5.1.symm, a5.2.symm⟩
   subst hyx
   rcases a6 with a6 | a6
   ·exact a6 rfl
   ·refine a6 (key.2 (fun z hz hzx => h3 z hz (by rw [hzx]; exact h2) (by rw [hzx]; exact ⟨rfl, rfl⟩)) k y d hy a4 rfl).symm
  ·obtain ⟨z, b1, b2⟩ := hk
   rw [b1, hix] at he
   cases he
   simp only [List.getElem?_map, Option.map_eq_some_iff] at b1
   obtain ⟨y, hy, hyx⟩ := b1
   have : y = x := h3 y (List.mem_of_getElem? hy) (by rw [hyx]; exact h2) (by rw [hyx]; exact ⟨rfl, rfl⟩)
   subst this
   exact h4 k hki hy
theorem first_place {E : Type} [DecidableEq E] {x : E} : ∀ {l : List E}, x ∈ l → ∃ i : Nat, l[i]? = some x ∧ ∀ k, k < i → l[k]? ≠ some x
  | [], h => by simp at h
  | y :: r, h => by
    by_cases hxy : y = x
    · exact ⟨0, by simp [hxy], by omega⟩
    · have hr : x ∈ r := by rcases List.mem_cons.1 h with h | h
                            · exact absurd h.symm hxy
                            · exact h
      obtain ⟨i, h1, h2⟩ := first_place hr
      refine ⟨i + 1, by simpa using h1, fun k hk => ?_⟩
      cases k with
      | zero => simpa using hxy
      | succ k => simpa using h2 k (by omega)
def pickL {E : Type} (l : List E) (a : List Int) : List E := a.filterMap fun i => l[i.toNat]?
theorem pickL_len {E : Type} {l : List E} : ∀ {a : List Int}, (∀ i ∈ a, i.toNat < l.length) → (pickL l a).length = a.length
 | [], _ => rfl
 | i :: a, h => by
  have hi := h i (by simp)
  have := pickL_len (l := l) (a := a) fun j hj => h j (by simp [hj])
  simp only [pickL] at this
  simp [pickL, hi, this]
theorem isEv_of {E : Type} [DecidableEq E] {st : E → Gq3} {l : List E} {cl : List Int} (h : ClsOk st l cl) {a : List Int} (ha : IsCanon (l.map st) cl a) : IsEv st l (pickL l a) := by
 have hlt : ∀ i ∈ a, i.toNat < l.length := fun i hi => by have := counts_lt ((ha.mem i).1 hi).2; simpa using this
 refine ⟨?_, fun e => ?_⟩
 ·unfold pickL
  rw [List.pairwise_filterMap]
  refine List.Pairwise.imp_of_mem (fun {i j} hi hj hij => ?_) ha.sorted
  intro x hx y hy
  obtain ⟨p, q, h1, h2, h3⟩ := hij
  simp only [List.getElem?_map, Option.map_eq_some_iff] at h1 h2
  obtain ⟨x', h4, rfl⟩ := h1
  obtain ⟨y', h5, rfl⟩ := h2
  simp_all
 ·simp only [pickL, List.mem_filterMap]
  constructor
  ·rintro ⟨i, hi, hx⟩
   exact ((counts_set h hx).1 ((ha.mem i).1 hi).2).1
  ·intro he
   obtain ⟨i, h1, h2⟩ := first_place he.1
   exact ⟨(i : Int), (ha.mem _).2 ⟨by omega, by simpa using (counts_set h h1).2 ⟨he, h2⟩⟩, by simpa using h1⟩
def clsR {E : Type} [DecidableEq E] (l : List E) : List Int := l.map fun x => (l.findIdx (fun y => decide (y = x)) : Int)
theorem clsR_ok {E : Type} [DecidableEq E] (st : E → Gq3) (l : List E) : ClsOk st l (clsR l) := by
 refine ⟨by simp [clsR], fun i x c hx hc => ?_⟩
 have hcx : c = (l.findIdx (fun y => decide (y = x)) : Int) := by simp [clsR, hx] at hc; exact hc.symm
 constructor
 ·intro h y hy hs
  obtain ⟨k, hk⟩ := List.getElem?_of_mem hy
  have := h k y (l.findIdx (fun z => decide (z = y)) : Int) hk (by simp [clsR, hk]) hs
  rw [hcx] at this
  have hf : l.findIdx (fun z => decide (z = y)) = l.findIdx (fun z => decide (z = x)) := by omega
  have hlt : l.findIdx (fun z => decide (z = x)) < l.length := List.findIdx_lt_length_of_exists ⟨x, List.mem_of_getElem? hx, by simp⟩
  have e1 := List.findIdx_getElem (xs := l) (p := fun z => decide (z = x)) (w := hlt)
  have hlt2 : l.findIdx (fun z => decide (z = y)) < l.length := by rw [hf]; exact hlt
  have e2 := List.findIdx_getElem (xs := l) (p := fun z => decide (z = y)) (w := hlt2)
  simp only [decide_eq_true_eq] at e1 e2
  rw [← e1, ← e2]
  simp only [hf]
 ·intro h k y d hy hd hs
  have := h y (List.mem_of_getElem? hy) hs
  subst this
  simp [clsR, hy] at hd
  rw [hcx, ← hd]
def clsP {E : Type} [DecidableEq E] (st : E → Gq3) (l : List E) : List Int := l.map fun x => if l.find? (fun y => decide (st y = st x)) = some x then 0 else 1
theorem clsP_ok {E : Type} [DecidableEq E] (st : E → Gq3) (l : List E) : ClsOk st l (clsP st l) := by
 refine ⟨by simp [clsP], fun i x c hx hc => ?_⟩
 have hcx : c = if l.find? (fun y => decide (st y = st x)) = some x then 0 else 1 := by simp [clsP, hx] at hc; exact hc.symm
 obtain ⟨f, hf⟩ : ∃ f, l.find? (fun y => decide (st y = st x)) = some f := by
  cases h : l.find? (fun y => decide (st y = st x)) with
  | none => rw [List.find?_eq_none] at h; exact absurd (h x (List.mem_of_getElem? hx)) (by simp)
  | some f => exact ⟨f, rfl⟩
 have hfs : st f = st x := by simpa using List.find?_some hf
 have hfm : f ∈ l := List.mem_of_find?_eq_some hf
 have hfc : ∀ y, st y = st x → l.find? (fun z => decide (st z = st y)) = some f := fun y hy => by rw [hy]; exact hf
 constructor
 ·intro h
  obtain ⟨k, hk⟩ := List.getElem?_of_mem hfm
  have h0 := h k f 0 hk (by simp [clsP, hk, hfc f hfs]) hfs
  have hall : ∀ y ∈ l, st y = st x → y = f := fun y hy hs => by
   obtain ⟨j, hj⟩ := List.getElem?_of_mem hy
   have := h j y _ hj (by simp only [clsP, List.getElem?_map, hj, Option.map_some]; rfl) hs
   rw [← h0, hfc y hs] at this
   by_cases he : f = y
   ·exact he.symm
   ·rw [if_neg (by simpa using he)] at this; omega
  intro y hy hs
  rw [hall y hy hs, hall x (List.mem_of_getElem? hx) rfl]
 ·intro h k y d hy hd hs
  have := h y (List.mem_of_getElem? hy) hs
  subst this
  simp only [clsP, List.getElem?_map, hy, Option.map_some, Option.some.injEq] at hd
  rw [hcx, ← hd]
def evL {E : Type} [DecidableEq E] (st : E → Gq3) (l : List E) : List E := pickL l (canonL (l.map st) (clsR l))
theorem evL_is {E : Type} [DecidableEq E] (st : E → Gq3) (l : List E) : IsEv st l (evL st l) := isEv_of (clsR_ok st l) (canonL_is _ _)
theorem evL_of {E : Type} [DecidableEq E] {st : E → Gq3} {l : List E} {cl : List Int} (h : ClsOk st l cl) : pickL l (canonL (l.map st) cl) = evL st l :=
 (isEv_of h (canonL_is _ _)).unique (evL_is st l)
theorem canonL_lt {l : List Gq3} {cl : List Int} {i : Int} (h : i ∈ canonL l cl) : 0 ≤ i ∧ i.toNat < l.length := by
 have := ((canonL_is l cl).mem i).1 h; exact ⟨this.1, counts_lt this.2⟩
theorem evL_len {E : Type} [DecidableEq E] {st : E → Gq3} {l : List E} {cl : List Int} (h : ClsOk st l cl) : (canonL (l.map st) cl).length = (evL st l).length := by
 rw [← evL_of h, pickL_len]
 intro i hi; have := (canonL_lt hi).2; simpa using this
theorem canonS_ev {E : Type} [DecidableEq E] {st : E → Gq3} {l : List E} {cl : List Int} (h : ClsOk st l cl) : canonS (l.map st) cl = if 300 < (evL st l).length then ([], 3) else (canonL (l.map st) cl, 0) := by
 have h1 := h.len
 unfold canonS
 rw [if_neg (by simpa using h1), evL_len h]
theorem isort_len {α : Type} {lt : α → α → Bool} (l : List α) : (isort lt l).length = l.length := perm_isort.length_eq
theorem canonL_len (l : List Gq3) (cl : List Int) : (canonL l cl).length ≤ l.length := by
 unfold canonL
 rw [isort_len, List.length_map]
 have := List.length_filter_le (countsB l cl) (List.range l.length)
 simpa using this
theorem evL_le {E : Type} [DecidableEq E] (st : E → Gq3) (l : List E) : (evL st l).length ≤ l.length := by
 rw [← evL_len (clsR_ok st l)]
 have := canonL_len (l.map st) (clsR l)
 simpa using this
def canonEv {E : Type} [DecidableEq E] (st : E → Gq3) (l : List E) : List E × Int := if 300 < (evL st l).length then ([], 3) else (evL st l, 0)
end Go.Sh
set_option linter.unusedVariables false
set_option linter.unusedSimpArgs false
namespace Go.Sh
open Go.L

theorem equal_loop : ∀ (s s' p : List Int) (q : List Int) (n : Nat), p.length = q.length → s.length = s'.length → (p ++ s).length < 1000000 → s.length < n → q2q (p ++ s) (q ++ s') n (p.length : Int) = some (decide (s = s')) := by
 intro s
 induction s with
 | nil => intro s' p q n hpq hs hb hn; cases n with
  | zero => omega
  | succ n =>
   have : s' = [] := List.eq_nil_of_length_eq_zero (by simpa using hs.symm)
   subst this
   simp only [q2q, q9q, dge, Bool.false_eq_true, if_false, decide_true]
 | cons x s ih => intro s' p q n hpq hs hb hn; cases n with
  | zero => omega
  | succ n =>
   cases s' with
   | nil => simp at hs
   | cons y s' =>
    have hl : p.length < 1000000 := by simp at hb; omega
    have i2 : idx (q ++ y :: s') (p.length : Int) = some y := by rw [hpq]; exact idx_at q y s'
    simp only [q2q, q9q, dlt, if_true, idx_at, i2, Option.bind_some]
    by_cases hxy : x = y
    ·subst hxy
     have := ih s' (p ++ [x]) (q ++ [x]) n (by simp [hpq]) (by simpa using hs) (by simpa using hb) (by simpa using hn)
     simp only [bne_self_eq_false, Bool.false_eq_true, if_false]
     rw [nxt p x (by omega), snoc p, snoc q, this]
     simp
    ·have : (x != y) = true := by simp [hxy]
     simp [this, hxy]
theorem equal_s {F : Nat} {a b : List Int} (hb : a.length < 1000000) (hF : a.length < F) : q16q F a b = some (decide (a = b)) := by
 unfold q16q
 by_cases h : a.length = b.length
 ·have h1 : ((a.length : Int) != (b.length : Int)) = false := by simp [h]
  simp only [h1, Bool.false_eq_true, if_false]
  exact equal_loop a b [] [] F rfl h (by simpa using hb) hF
 ·have h1 : ((a.length : Int) != (b.length : Int)) = true := by simp; omega
  have h2 : a ≠ b := fun hab => h (by rw [hab])
  simp [h1, h2]
theorem ints_eq {F : Nat} {a b : List Int} : q36q F a b = q16q F a b := by
 have h : ∀ n, q159q a b n = q2q a b n := fun n => by
  induction n with
  | zero => rfl
  | succ n ih => show q177q a b (q159q a b n) = q9q a b (q2q a b n); rw [ih]; rfl
 unfold q36q q16q; rw [h]
theorem ints_s {F : Nat} {a b : List Int} (hb : a.length < 1000000) (hF : a.length < F) : q36q F a b = some (decide (a = b)) := by rw [ints_eq]; exact equal_s hb hF
def Short (F : Nat) (l : List Gq0) : Prop := ∀ e ∈ l, e.Candidates.length < 1000000 ∧ e.Candidates.length < F
theorem same_s {F : Nat} {a b : Gq0} (hb : a.Candidates.length < 1000000) (hF : a.Candidates.length < F) : q145q F a b = some (decide (a = b)) := by
 unfold q145q
 rw [equal_s hb hF]
 obtain ⟨s, k, g, sl, f, t, c⟩ := a
 obtain ⟨s', k', g', sl', f', t', c'⟩ := b
 simp only [Gq0.mk.injEq, decide_eq_true_eq, beq_iff_eq, Option.bind_some]
 by_cases h1 : s = s'
 ·by_cases h2 : k = k'
  ·by_cases h3 : g = g'
   ·by_cases h4 : sl = sl'
    ·by_cases h5 : f = f'
     ·by_cases h6 : t = t'
      ·simp [h1, h2, h3, h4, h5, h6]
      ·simp [h6]
     ·simp [h5]
    ·simp [h4]
   ·simp [h3]
  ·simp [h2]
 ·simp [h1]
theorem rsame_s {F : Nat} {a b : Gq0} (hb : a.Candidates.length < 1000000) (hF : a.Candidates.length < F) : q203q F a b = some (decide (a = b)) := by
 rw [← same_s hb hF]; unfold q203q q145q; rw [ints_eq]
theorem mget_mput {α β : Type} [DecidableEq α] (k k' : α) (v : β) : ∀ m : List (α × β), mget (mput m k v) k' = if k' = k then some v else mget m k'
  | [] => by simp only [mput, mget]; by_cases h : k = k'
             · simp [h]
             · simp [h, Ne.symm h]
  | (a, b) :: r => by
    simp only [mput]
    by_cases h : a = k
    · subst h
      simp only [if_true, mget]
      by_cases h2 : a = k'
      · simp [h2]
      · simp [h2, Ne.symm h2]
    · simp only [h, if_false, mget, mget_mput k k' v r]
      by_cases h2 : a = k'
      · subst h2; simp [h]
      · simp [h2]
theorem nxtN {i : Nat} (h : i < 1000000000) : i64 ((i : Int) + 1) = ((i + 1 : Nat) : Int) := by rw [i64_of (by omega) (by omega)]; rfl
theorem idx_mid {α : Type} {p : List α} {x : α} {s : List α} {n : Nat} (h : p.length = n) : idx (p ++ x :: s) (n : Int) = some x := by rw [← h]; exact idx_at p x s
theorem set_mid {α : Type} {p : List α} {x y : α} {s : List α} {n : Nat} (h : p.length = n) : (p ++ x :: s).set (n : Int).toNat y = p ++ y :: s := by
 simp [← h]
theorem split_loop {F0 : List Gq0} {p1 : Gq0 → Option Gq3} {p2 : Gq0 → Gq0 → Option Bool} (hb : F0.length < 1000000) (h1 : ∀ a ∈ F0, p1 a = some a.Stamp) (h2 : ∀ a ∈ F0, ∀ b ∈ F0, p2 a b = some (decide (a = b))) (z : Gq3) :
  ∀ (s p : List Gq0) (n : Nat) (m : List (Gq3 × Int)), F0 = p ++ s → s.length < n → (∀ x, mget m x = (p.findIdx? fun y => decide (y.Stamp = x)).map Int.ofNat) →
   copies_Split_BagEvent_L1 F0 p1 p2 n (p.length : Int) (p.map (·.Stamp) ++ List.replicate s.length z) (p.map (fun x => if F0.find? (fun y => decide (y.Stamp = x.Stamp)) = some x then 0 else 1) ++ List.replicate s.length 0) m
    = some (F0.map (·.Stamp), clsP (·.Stamp) F0) := by
 intro s
 induction s with
 | nil =>
  intro p n m hp hn hm
  cases n with
  | zero => omega
  | succ n =>
   have : F0 = p := by simpa using hp
   subst this
   simp only [copies_Split_BagEvent_L1, copies_Split_BagEvent_L1_B, Int.lt_irrefl, decide_false, Bool.false_eq_true, if_false, List.length_nil, List.replicate_zero, List.append_nil, clsP]
 | cons x s ih =>
  intro p n m hp hn hm
  cases n with
  | zero => omega
  | succ n =>
   have hx : x ∈ F0 := by rw [hp]; simp
   have hlen : p.length < 1000000 := by rw [hp] at hb; simp at hb; omega
   have d1 : decide ((p.length : Int) < (F0.length : Int)) = true := by rw [hp]; exact dlt p x s
   have i1 : idx F0 (p.length : Int) = some x := by rw [hp]; exact idx_at p x s
   simp only [copies_Split_BagEvent_L1, copies_Split_BagEvent_L1_B, d1, if_true, i1, Option.bind_some, h1 x hx, List.length_cons, List.replicate_succ]
   rw [idx_mid (by simp), set_mid (by simp), idx_mid (by simp)]
   simp only [Option.bind_some, nxtN (show p.length < 1000000000 by omega), hm]
   have hlen' : ((p.length + 1 : Nat) : Int) = ((p ++ [x]).length : Int) := by simp
   have hst : p.map (·.Stamp) ++ x.Stamp :: List.replicate s.length z = (p ++ [x]).map (·.Stamp) ++ List.replicate s.length z := by simp
   have hF : F0 = (p ++ [x]) ++ s := by rw [hp]; simp
   have hfx : ∀ q : Gq0 → Bool, F0.find? q = ((p.find? q).or (if q x then some x else s.find? q)) := fun q => by
    rw [hp, List.find?_append, List.find?_cons]
    cases q x <;> simp
   cases hj : p.findIdx? (fun y => decide (y.Stamp = x.Stamp)) with
   | none =>
    simp only [Option.map_none, Option.isSome_none, Bool.not_false, if_true]
    have hpn : p.find? (fun y => decide (y.Stamp = x.Stamp)) = .none := by
     rw [List.findIdx?_eq_none_iff] at hj
     rw [List.find?_eq_none]; intro y hy; simpa using hj y hy
    have hc : F0.find? (fun y => decide (y.Stamp = x.Stamp)) = some x := by rw [hfx, hpn]; simp
    have hcl : p.map (fun x => if F0.find? (fun y => decide (y.Stamp = x.Stamp)) = some x then (0 : Int) else 1) ++ 0 :: List.replicate s.length 0 = (p ++ [x]).map (fun x => if F0.find? (fun y => decide (y.Stamp = x.Stamp)) = some x then (0 : Int) else 1) ++ List.replicate s.length 0 := by
     simp [hc]
    rw [hcl, hst, hlen']
    refine ih (p ++ [x]) n _ hF (by simpa using hn) fun y => ?_
    rw [mget_mput, hm, List.findIdx?_append]
    by_cases hyx : y = x.Stamp
    ·subst hyx; simp [hj, List.findIdx?_cons]
    ·rw [if_neg hyx]
     cases p.findIdx? (fun z => decide (z.Stamp = y)) with
     | none => simp [List.findIdx?_cons, Ne.symm hyx]
     | some j => simp
   | some j =>
    rw [List.findIdx?_eq_some_iff_getElem] at hj
    obtain ⟨hjl, hj1, hj2⟩ := hj
    simp only [decide_eq_true_eq] at hj1
    have hpf : p.find? (fun y => decide (y.Stamp = x.Stamp)) = some p[j] := by
     rw [List.find?_eq_some_iff_getElem]
     exact ⟨by simpa using hj1, j, hjl, rfl, fun k hk => by simpa using hj2 k hk⟩
    have hfj : idx F0 (j : Int) = some p[j] := by
     rw [idx_nat, hp, List.getElem?_append_left hjl]; simp [hjl]
    have hpj : p[j] ∈ F0 := by rw [hp]; simp
    have hc : F0.find? (fun y => decide (y.Stamp = x.Stamp)) = some p[j] := by rw [hfx, hpf]; simp
    simp only [Option.map_some, Option.isSome_some, Bool.not_true, Bool.false_eq_true, if_false, Option.getD_some]
    have hm' : ∀ y, mget m y = ((p ++ [x]).findIdx? fun z => decide (z.Stamp = y)).map Int.ofNat := fun y => by
     rw [hm, List.findIdx?_append]
     cases hq : p.findIdx? (fun z => decide (z.Stamp = y)) with
     | some j => simp
     | none =>
      have : ¬ x.Stamp = y := fun hxy => by
       subst hxy
       rw [List.findIdx?_eq_none_iff] at hq
       have := hq p[j] (by simp)
       simp [hj1] at this
      simp [List.findIdx?_cons, this]
    show (idx F0 ((j : Nat) : Int)).bind _ = _
    rw [hfj]
    simp only [Option.bind_some, h2 _ hpj _ hx]
    by_cases he : p[j] = x
    ·have hcl : p.map (fun x => if F0.find? (fun y => decide (y.Stamp = x.Stamp)) = some x then (0 : Int) else 1) ++ 0 :: List.replicate s.length 0 = (p ++ [x]).map (fun x => if F0.find? (fun y => decide (y.Stamp = x.Stamp)) = some x then (0 : Int) else 1) ++ List.replicate s.length 0 := by
      simp [hc, he]
     simp only [he, decide_true, Bool.not_true, Bool.false_eq_true, if_false]
     rw [hcl, hst, hlen']
     exact ih (p ++ [x]) n _ hF (by simpa using hn) hm'
    ·have hcl : p.map (fun x => if F0.find? (fun y => decide (y.Stamp = x.Stamp)) = some x then (0 : Int) else 1) ++ 1 :: List.replicate s.length 0 = (p ++ [x]).map (fun x => if F0.find? (fun y => decide (y.Stamp = x.Stamp)) = some x then (0 : Int) else 1) ++ List.replicate s.length 0 := by
      simp [hc, he]
     simp only [he, decide_false, Bool.not_false, if_true]
     rw [idx_mid (by simp), set_mid (by simp)]
     simp only [Option.bind_some]
     rw [hcl, hst, hlen']
     exact ih (p ++ [x]) n _ hF (by simpa using hn) hm'
theorem split_s {F : Nat} {l : List Gq0} {p1 : Gq0 → Option Gq3} {p2 : Gq0 → Gq0 → Option Bool} (hb : l.length < 1000000) (hF : l.length < F) (h1 : ∀ a ∈ l, p1 a = some a.Stamp) (h2 : ∀ a ∈ l, ∀ b ∈ l, p2 a b = some (decide (a = b))) :
  copies_Split_BagEvent F l p1 p2 = some (l.map (·.Stamp), clsP (·.Stamp) l) := by
 unfold copies_Split_BagEvent
 rw [mkl_of (by omega), Option.bind_some, mkl_of (by omega), Option.bind_some]
 exact split_loop hb h1 h2 _ l [] F [] rfl hF fun x => by simp [mget]
theorem copiesCanonical_s {F : Nat} (h10 : 10 ≤ F) {l : List Gq0} {p1 : Gq0 → Option Gq3} {p2 : Gq0 → Gq0 → Option Bool} (hb : l.length < 1000000) (hF : l.length < F) (h1 : ∀ a ∈ l, p1 a = some a.Stamp) (h2 : ∀ a ∈ l, ∀ b ∈ l, p2 a b = some (decide (a = b))) :
  copies_Canonical_BagEvent F l p1 p2 = some (canonS (l.map (·.Stamp)) (clsP (·.Stamp) l)) := by
 unfold copies_Canonical_BagEvent
 rw [split_s hb hF h1 h2]
 simp only [Option.bind_some]
 rw [canonical_e h10 (by simpa using hb) (by simpa using hF)]
 rfl
theorem fill_loop {l : List Gq0} {a : List Int} {c : Int} {F : Nat} (hc : Short F l) (ha : ∀ i ∈ a, 0 ≤ i ∧ i.toNat < l.length) (hb : a.length < 1000000) (z : Gq0) : ∀ (s p : List Int) (n : Nat), a = p ++ s → s.length < n →
  q43q l (a, c) n (p.length : Int) (pickL l p ++ List.replicate s.length z) = some (pickL l a, 0) := by
 intro s
 induction s with
 | nil =>
  intro p n hp hn
  cases n with
  | zero => omega
  | succ n =>
   have : a = p := by simpa using hp
   subst this
   simp only [q43q, q63q, Int.lt_irrefl, decide_false, Bool.false_eq_true, if_false, List.length_nil, List.replicate_zero, List.append_nil]
 | cons x s ih =>
  intro p n hp hn
  cases n with
  | zero => omega
  | succ n =>
   have hx := ha x (by rw [hp]; simp)
   have hpl : (pickL l p).length = p.length := pickL_len fun i hi => (ha i (by rw [hp]; simp [hi])).2
   have hlen : p.length < 1000000 := by rw [hp] at hb; simp at hb; omega
   have d1 : decide ((p.length : Int) < (a.length : Int)) = true := by rw [hp]; exact dlt p x s
   have i1 : idx a (p.length : Int) = some x := by rw [hp]; exact idx_at p x s
   have i2 : idx l x = some l[x.toNat] := by rw [idx_some]; exact ⟨hx.1, by simp [hx.2]⟩
   simp only [q43q, q63q, d1, if_true, i1, i2, Option.bind_some, List.length_cons, List.replicate_succ]
   have hcl := (hc l[x.toNat] (List.getElem_mem hx.2)).1
   rw [idx_mid hpl, set_mid hpl, app_of (by simp; omega)]
   simp only [Option.bind_some, List.nil_append]
   rw [idx_mid hpl, Option.bind_some, set_mid hpl]
   simp only [nxtN (show p.length < 1000000000 by omega)]
   have e1 : pickL l p ++ l[x.toNat] :: List.replicate s.length z = pickL l (p ++ [x]) ++ List.replicate s.length z := by simp [pickL, hx.2]
   have e2 : ((p.length + 1 : Nat) : Int) = ((p ++ [x]).length : Int) := by simp
   rw [e1, e2]
   exact ih (p ++ [x]) n (by simp [hp]) (by simpa using hn)
theorem canonicalP_s {F : Nat} (h10 : 10 ≤ F) {l : List Gq0} (hc : Short F l) (hb : l.length < 1000000) (hF : l.length < F) : q133q F l = some (canonEv (·.Stamp) l) := by
 unfold q133q
 rw [copiesCanonical_s (p1 := fun a0 => q157q a0) (p2 := fun a0 a1 => q145q F a0 a1) h10 hb hF (fun a _ => rfl) (fun a ha b _ => same_s (hc a ha).1 (hc a ha).2)]
 rw [canonS_ev (clsP_ok _ _)]
 simp only [Option.bind_some, canonEv]
 by_cases h : 300 < (evL (·.Stamp) l).length
 ·simp [h]
 ·have hlen := canonL_len (l.map (·.Stamp)) (clsP (·.Stamp) l)
  rw [List.length_map] at hlen
  simp only [h, if_false, bne_self_eq_false, Bool.false_eq_true]
  rw [mkl_of (by omega)]
  simp only [Option.bind_some]
  rw [← evL_of (clsP_ok (·.Stamp) l)]
  refine fill_loop hc (fun i hi => ?_) (by omega) _ _ [] F rfl (Nat.lt_of_le_of_lt hlen hF)
  have := canonL_lt hi
  exact ⟨this.1, by simpa using this.2⟩
theorem back_loop {F : Nat} {l : List Gq0} (hc : Short F l) {i : Nat} (hi : i < l.length) (hb : l.length < 1000000) (rec1 : Int → List Gq3 → List Int → Option (List Gq0 × Int)) (l2 : List Gq3) (l3 : List Int) (h2 : l2.length < 1000000) (h3 : l3.length < 1000000) :
  ∀ (k n : Nat), k ≤ i → k < n → q54q rec1 F l i l2 l3 n ((k : Int) + ((l.drop k).findIdx fun y => decide (y = l[i]) : Nat)) ((k : Int) - 1) = rec1 ((i + 1 : Nat) : Int) (l2 ++ [l[i].Stamp]) (l3 ++ [((l.findIdx fun y => decide (y = l[i]) : Nat) : Int)]) := by
 intro k
 induction k with
 | zero =>
  intro n hk hn
  cases n with
  | zero => omega
  | succ n =>
   have d : decide (((0 : Nat) : Int) - 1 ≥ 0) = false := by simp
   simp only [q54q, q90q, d, Bool.false_eq_true, if_false, idx_lt hi, Option.bind_some]
   rw [app_of (by simp; omega), Option.bind_some, app_of (by simp; omega), Option.bind_some, nxtN (by omega)]
   simp
 | succ k ih =>
  intro n hk hn
  cases n with
  | zero => omega
  | succ n =>
   have d : decide (((k + 1 : Nat) : Int) - 1 ≥ 0) = true := by simp
   have e : ((k + 1 : Nat) : Int) - 1 = (k : Int) := by omega
   have hkl : k < l.length := by omega
   simp only [q54q, q90q, d, if_true]
   rw [e]
   simp only [idx_lt hi, idx_lt hkl, Option.bind_some]
   rw [rsame_s (hc l[i] (List.getElem_mem hi)).1 (hc l[i] (List.getElem_mem hi)).2]
   simp only [Option.bind_some]
   rw [i64_of (by omega) (by omega)]
   have hd : l.drop k = l[k] :: l.drop (k + 1) := (List.drop_eq_getElem_cons hkl)
   have := ih n (by omega) (by omega)
   rw [hd, List.findIdx_cons] at this
   by_cases h : l[i] = l[k]
   ·simp only [h, decide_true, if_true]
    simp only [h, decide_true, cond_true, Int.ofNat_zero, Int.add_zero] at this
    exact this
   ·simp only [h, decide_false, Bool.false_eq_true, if_false]
    simp only [Ne.symm h, decide_false, cond_false] at this
    rw [← this]
    congr 1
    omega
theorem pick_loop {l : List Gq0} {a : List Int} {c : Int} (ha : ∀ i ∈ a, 0 ≤ i ∧ i.toNat < l.length) (hb : a.length < 1000000) : ∀ (s p : List Int) (n : Nat), a = p ++ s → s.length < n →
  q55q l (a, c) n (p.length : Int) (pickL l p) = some (pickL l a, 0) := by
 intro s
 induction s with
 | nil =>
  intro p n hp hn
  cases n with
  | zero => omega
  | succ n =>
   have : a = p := by simpa using hp
   subst this
   simp only [q55q, q91q, Int.lt_irrefl, decide_false, Bool.false_eq_true, if_false]
 | cons x s ih =>
  intro p n hp hn
  cases n with
  | zero => omega
  | succ n =>
   have hx := ha x (by rw [hp]; simp)
   have hpl : (pickL l p).length = p.length := pickL_len fun i hi => (ha i (by rw [hp]; simp [hi])).2
   have hlen : p.length < 1000000 := by rw [hp] at hb; simp at hb; omega
   have d1 : decide ((p.length : Int) < (a.length : Int)) = true := by rw [hp]; exact dlt p x s
   have i1 : idx a (p.length : Int) = some x := by rw [hp]; exact idx_at p x s
   have i2 : idx l x = some l[x.toNat] := by rw [idx_some]; exact ⟨hx.1, by simp [hx.2]⟩
   simp only [q55q, q91q, d1, if_true, i1, i2, Option.bind_some]
   rw [app_of (by simp; omega)]
   simp only [Option.bind_some, nxtN (show p.length < 1000000000 by omega)]
   have e1 : pickL l p ++ [l[x.toNat]] = pickL l (p ++ [x]) := by simp [pickL, hx.2]
   have e2 : ((p.length + 1 : Nat) : Int) = ((p ++ [x]).length : Int) := by simp
   rw [e1, e2]
   exact ih (p ++ [x]) n (by simp [hp]) (by simpa using hn)
theorem canonicalR_loop {F : Nat} {l : List Gq0} (hc : Short F l) (hb : l.length < 1000000) (hF : l.length < F) : ∀ (j n i : Nat), i + j = l.length → j < n →
  q41q F l n (i : Int) ((l.take i).map (·.Stamp)) ((clsR l).take i) = some (canonEv (·.Stamp) l) := by
 intro j
 induction j with
 | zero =>
  intro n i hij hn
  cases n with
  | zero => omega
  | succ n =>
   have hi : i = l.length := by omega
   subst hi
   have hc : (clsR l).take l.length = clsR l := List.take_of_length_le (by simp [clsR])
   simp only [q41q, q89q, Int.lt_irrefl, decide_false, Bool.false_eq_true, if_false, List.take_length, hc]
   rw [refCanonical_e (by simpa using hb) (by simpa using hF), canonS_ev (clsR_ok _ _)]
   simp only [Option.bind_some, canonEv]
   by_cases h : 300 < (evL (·.Stamp) l).length
   ·simp [h]
   ·have hlen := canonL_len (l.map (·.Stamp)) (clsR l)
    rw [List.length_map] at hlen
    simp only [h, if_false, bne_self_eq_false, Bool.false_eq_true]
    refine pick_loop (fun i hi => ?_) (by omega) _ [] F rfl (Nat.lt_of_le_of_lt hlen hF)
    have := canonL_lt hi
    exact ⟨this.1, by simpa using this.2⟩
 | succ j ih =>
  intro n i hij hn
  cases n with
  | zero => omega
  | succ n =>
   have hi : i < l.length := by omega
   have d1 : decide ((i : Int) < (l.length : Int)) = true := by simp; omega
   simp only [q41q, q89q, d1, if_true]
   have hbk := back_loop hc hi hb (q41q F l n) ((l.take i).map (·.Stamp)) ((clsR l).take i) (by simp; omega) (by simp [clsR]; omega) i F (by omega) (by omega)
   have h0 : (l.drop i).findIdx (fun y => decide (y = l[i])) = 0 := by rw [List.drop_eq_getElem_cons hi, List.findIdx_cons]; simp
   rw [h0] at hbk
   simp only [Int.ofNat_zero, Int.add_zero] at hbk
   rw [i64_of (by omega) (by omega), hbk]
   have e1 : (l.take i).map (·.Stamp) ++ [l[i].Stamp] = (l.take (i + 1)).map (·.Stamp) := by
    rw [List.take_add_one, List.map_append]; simp [hi, -List.map_take]
   have e2 : (clsR l).take i ++ [((l.findIdx fun y => decide (y = l[i]) : Nat) : Int)] = (clsR l).take (i + 1) := by rw [List.take_add_one]; simp [clsR, hi]
   rw [e1, e2]
   exact ih n (i + 1) (by omega) (by omega)
theorem canonicalR_s {F : Nat} {l : List Gq0} (hc : Short F l) (hb : l.length < 1000000) (hF : l.length < F) : q178q F l = some (canonEv (·.Stamp) l) :=
 canonicalR_loop hc hb hF l.length F 0 (by omega) hF
end Go.Sh
set_option linter.unusedVariables false
set_option linter.unusedSimpArgs false
namespace Go.Sh
open Go.L

def srtL : Option Int → List Int → Bool
 | _, [] => true
 | p, x :: s => !(decide (x < 0) || (decide (x > 9999) || (match p with | some q => decide (q ≥ x) | .none => false))) && srtL (some x) s
def srt (l : List Int) : Bool := decide (l.length ≤ 60) && srtL .none l
theorem sorted_loop : ∀ (s p : List Int) (n : Nat), (p ++ s).length < 1000000 → s.length < n → q61q (p ++ s) n (p.length : Int) = some (srtL p.getLast? s) := by
 intro s
 induction s with
 | nil => intro p n hb hn; cases n with
  | zero => omega
  | succ n => simp only [q61q, q104q, dge, Bool.false_eq_true, if_false, srtL]
 | cons x s ih => intro p n hb hn; cases n with
  | zero => omega
  | succ n =>
   have hl : p.length < 1000000 := by simp at hb; omega
   have hrec := ih (p ++ [x]) n (by simpa using hb) (by simpa using hn)
   rw [List.getLast?_concat] at hrec
   simp only [q61q, q104q, dlt, if_true, idx_at, Option.bind_some, srtL]
   have key : (if decide (x < 0) = true then some true else if decide (x > 9999) = true then some true else if decide ((p.length : Int) > 0) = true then (idx (p ++ x :: s) (i64 ((p.length : Int) - 1))).bind fun x10 => some (decide (x10 ≥ x)) else some false) = some (decide (x < 0) || (decide (x > 9999) || (match p.getLast? with | some q => decide (q ≥ x) | .none => false))) := by
    by_cases h1 : x < 0
    ·simp [h1]
    ·by_cases h2 : x > 9999
     ·simp [h1, h2]
     ·rcases List.eq_nil_or_concat p with rfl | ⟨q, y, rfl⟩
      ·simp [h1, h2]
      ·simp only [List.concat_eq_append] at hb hl hrec ⊢
       have h3 : decide (((q ++ [y]).length : Int) > 0) = true := by simp <;> omega
       have h4 : idx (q ++ [y] ++ x :: s) (i64 (((q ++ [y]).length : Int) - 1)) = some y := by
        rw [i64_of (by simp <;> omega) (by simp at hl ⊢; omega)]
        have : ((q ++ [y]).length : Int) - 1 = (q.length : Int) := by simp
        rw [this, ← snoc]; exact idx_at q y (x :: s)
       simp only [h1, h2, h3, h4, decide_false, Bool.false_eq_true, if_false, if_true, Option.bind_some, List.getLast?_concat, Bool.false_or]
   rw [key]
   simp only [Option.bind_some]
   rw [nxt p x (by omega), snoc, hrec]
   cases (decide (x < 0) || (decide (x > 9999) || (match p.getLast? with | some q => decide (q ≥ x) | .none => false))) <;> simp
theorem sorted_s {F : Nat} {l : List Int} (hF : 60 < F) : q143q F l = some (srt l) := by
 unfold q143q srt
 by_cases h : l.length ≤ 60
 ·have h1 : decide ((l.length : Int) > 60) = false := by simp; omega
  have := sorted_loop l [] F (by simp; omega) (by omega)
  simp only [h1, Bool.false_eq_true, if_false, h, decide_true, Bool.true_and]
  exact this
 ·have h1 : decide ((l.length : Int) > 60) = true := by simp; omega
  simp [h1, h]
theorem index_loop (v : Int) : ∀ (s p : List Int) (n : Nat), (p ++ s).length < 1000000 → s.length < n → ∃ r, q3q (p ++ s) v n (p.length : Int) = some r ∧ (r ≥ 0 ↔ v ∈ s) := by
 intro s
 induction s with
 | nil => intro p n hb hn; cases n with
  | zero => omega
  | succ n => exact ⟨-1, by simp only [q3q, q17q, dge, Bool.false_eq_true, if_false], by simp⟩
 | cons x s ih => intro p n hb hn; cases n with
  | zero => omega
  | succ n =>
   have hl : p.length < 1000000 := by simp at hb; omega
   obtain ⟨r, h1, h2⟩ := ih (p ++ [x]) n (by simpa using hb) (by simpa using hn)
   simp only [q3q, q17q, dlt, if_true, idx_at, Option.bind_some]
   by_cases hv : v = x
   ·exact ⟨(p.length : Int), by simp [hv], by simp [hv] <;> omega⟩
   ·have hb' : (v == x) = false := by simp [hv]
    rw [nxt p x (by omega), snoc, h1]
    exact ⟨r, by simp [hb'], by rw [h2]; simp [hv]⟩
theorem contains_s {F : Nat} {l : List Int} {v : Int} (hb : l.length < 1000000) (hF : l.length < F) : q13q F l v = some (decide (v ∈ l)) := by
 unfold q13q q99q
 obtain ⟨r, h1, h2⟩ := index_loop v l [] F (by simpa using hb) hF
 have h1' : q3q l v F 0 = some r := h1
 rw [h1']
 simp only [Option.bind_some]
 congr 1
 rw [decide_eq_decide]; exact h2
theorem indexB_loop (f : GBag → Bool) (p1 : GBag → Option Bool) : ∀ (s p : List GBag) (n : Nat), (∀ x ∈ s, p1 x = some (f x)) → (p ++ s).length < 1000000 → s.length < n → ∃ r, q5q (p ++ s) p1 n (p.length : Int) = some r ∧ (r ≥ 0 ↔ s.any f = true) := by
 intro s
 induction s with
 | nil => intro p n hp hb hn; cases n with
  | zero => omega
  | succ n => exact ⟨-1, by simp only [q5q, q37q, dge, Bool.false_eq_true, if_false], by simp⟩
 | cons x s ih => intro p n hp hb hn; cases n with
  | zero => omega
  | succ n =>
   have hl : p.length < 1000000 := by simp at hb; omega
   obtain ⟨r, h1, h2⟩ := ih (p ++ [x]) n (fun y hy => hp y (by simp [hy])) (by simpa using hb) (by simpa using hn)
   simp only [q5q, q37q, dlt, if_true, idx_at, Option.bind_some, hp x (by simp)]
   cases hf : f x with
   | true => exact ⟨(p.length : Int), by simp, by simp [hf] <;> omega⟩
   | false =>
    rw [nxt p x (by omega), snoc, h1]
    exact ⟨r, by simp, by rw [h2]; simp [hf]⟩
theorem containsB_s {F : Nat} {l : List GBag} {p1 : GBag → Option Bool} (f : GBag → Bool) (hp : ∀ x ∈ l, p1 x = some (f x)) (hb : l.length < 1000000) (hF : l.length < F) : q42q F l p1 = some (l.any f) := by
 unfold q42q q97q
 obtain ⟨r, h1, h2⟩ := indexB_loop f p1 l [] F hp (by simpa using hb) hF
 have h1' : q5q l p1 F 0 = some r := h1
 rw [h1']
 simp only [Option.bind_some]
 congr 1
 rw [Bool.eq_iff_iff, decide_eq_true_eq]; exact h2
theorem indexI_loop (f : Int → Bool) (p1 : Int → Option Bool) : ∀ (s p : List Int) (n : Nat), (∀ x ∈ s, p1 x = some (f x)) → (p ++ s).length < 1000000 → s.length < n → ∃ r, q6q (p ++ s) p1 n (p.length : Int) = some r ∧ (r ≥ 0 ↔ s.any f = true) := by
 intro s
 induction s with
 | nil => intro p n hp hb hn; cases n with
  | zero => omega
  | succ n => exact ⟨-1, by simp only [q6q, q38q, dge, Bool.false_eq_true, if_false], by simp⟩
 | cons x s ih => intro p n hp hb hn; cases n with
  | zero => omega
  | succ n =>
   have hl : p.length < 1000000 := by simp at hb; omega
   obtain ⟨r, h1, h2⟩ := ih (p ++ [x]) n (fun y hy => hp y (by simp [hy])) (by simpa using hb) (by simpa using hn)
   simp only [q6q, q38q, dlt, if_true, idx_at, Option.bind_some, hp x (by simp)]
   cases hf : f x with
   | true => exact ⟨(p.length : Int), by simp, by simp [hf] <;> omega⟩
   | false =>
    rw [nxt p x (by omega), snoc, h1]
    exact ⟨r, by simp, by rw [h2]; simp [hf]⟩
theorem containsI_s {F : Nat} {l : List Int} {p1 : Int → Option Bool} (f : Int → Bool) (hp : ∀ x ∈ l, p1 x = some (f x)) (hb : l.length < 1000000) (hF : l.length < F) : q22q F l p1 = some (l.any f) := by
 unfold q22q q98q
 obtain ⟨r, h1, h2⟩ := indexI_loop f p1 l [] F hp (by simpa using hb) hF
 have h1' : q6q l p1 F 0 = some r := h1
 rw [h1']
 simp only [Option.bind_some]
 congr 1
 rw [Bool.eq_iff_iff, decide_eq_true_eq]; exact h2
def inS (l : List GBag) (n : Int) : Bool := l.any fun b => decide (n ∈ b.Seals)
def inP (l : List GBag) (n : Int) : Bool := l.any fun b => decide (n ∈ b.Packed)
structure BShort (F : Nat) (l : List GBag) : Prop where
 len : l.length < 1000000
 lenF : l.length < F
 sl : ∀ b ∈ l, b.Seals.length < 1000000 ∧ b.Seals.length < F
 pk : ∀ b ∈ l, b.Packed.length < 1000000 ∧ b.Packed.length < F
 fd : ∀ b ∈ l, b.Found.length < 1000000 ∧ b.Found.length < F
theorem inBagsS {F : Nat} {l : List GBag} {n : Int} (h : BShort F l) : q60q F l n (fun a0 => q122q a0) = some (inS l n) := by
 unfold q60q
 rw [containsB_s (fun b => decide (n ∈ b.Seals)) (fun x hx => ?_) h.len h.lenF]
 ·rfl
 ·unfold q146q q122q
  simp only [Option.bind_some]
  rw [contains_s (h.sl x hx).1 (h.sl x hx).2]; rfl
theorem inBagsP {F : Nat} {l : List GBag} {n : Int} (h : BShort F l) : q60q F l n (fun a0 => q147q a0) = some (inP l n) := by
 unfold q60q
 rw [containsB_s (fun b => decide (n ∈ b.Packed)) (fun x hx => ?_) h.len h.lenF]
 ·rfl
 ·unfold q146q q147q
  simp only [Option.bind_some]
  rw [contains_s (h.pk x hx).1 (h.pk x hx).2]; rfl
def SortB (l : List GBag) : Prop := l.Pairwise fun a b => a.Bag < b.Bag
def placeB (l : List GBag) (n : Int) : Option Nat := l.findIdx? fun b => b.Bag == n
def cutB (l : List GBag) (n : Int) : Nat := (l.takeWhile fun b => decide (b.Bag < n)).length
theorem cutB_le (l : List GBag) (n : Int) : cutB l n ≤ l.length := (List.takeWhile_sublist _).length_le
theorem cutB_iff {l : List GBag} (hs : SortB l) (n : Int) : ∀ q (hq : q < l.length), q < cutB l n ↔ l[q].Bag < n := by
 induction l with
 | nil => intro q hq; simp at hq
 | cons x s ih =>
  have hs' := List.pairwise_cons.1 hs
  intro q hq
  unfold cutB
  by_cases hx : x.Bag < n
  ·rw [List.takeWhile_cons_of_pos (by simpa using hx)]
   cases q with
   | zero => simp [hx]
   | succ q => have := ih hs'.2 q (by simpa using hq); unfold cutB at this; simpa using this
  ·rw [List.takeWhile_cons_of_neg (by simpa using hx)]
   cases q with
   | zero => simp; omega
   | succ q =>
    have hq' : q < s.length := by simpa using hq
    have := hs'.1 s[q] (List.getElem_mem _)
    simp; omega
theorem mid_s {a b : Nat} (h : a + b < 1000000000) : i64 (shrI .u64 (IntKind.u64.wrap (i64 ((a : Int) + b))) 1) = (((a + b) / 2 : Nat) : Int) := by
 rw [i64_of (n := (a : Int) + b) (by omega) (by omega)]
 have h1 : IntKind.u64.wrap ((a : Int) + b) = (a : Int) + b := by
  unfold IntKind.wrap
  simp only [IntKind.bits, IntKind.signed]
  first | omega | (simp; omega)
 rw [h1]
 have h2 : shrI .u64 ((a : Int) + b) 1 = ((a : Int) + b) / 2 := by
  unfold shrI
  simp only [IntKind.bits]
  rw [show (2 : Int) ^ min (1 : Int).toNat 64 = 2 from rfl]
  rw [Int.fdiv_eq_ediv_of_nonneg _ (by omega)]
 rw [h2, i64_of (by omega) (by omega)]
 omega
theorem bsearch_loop {l : List GBag} {x : Int} {p2 : GBag → Int → Option Int} {f : GBag → Int} {k : Nat} (hb : l.length < 1000000) (hk : k ≤ l.length) (hf : ∀ y ∈ l, p2 y x = some (f y)) (h : ∀ q (hq : q < l.length), q < k ↔ f l[q] < 0) :
  ∀ n (a b : Nat), a ≤ k → k ≤ b → b ≤ l.length → b - a < n → q4q l x p2 n a b = some ((k : Int), match l[k]? with | some y => f y == 0 | .none => false) := by
 intro n
 induction n with
 | zero => intro a b _ _ _ h; omega
 | succ n ih =>
  intro a b ha hkb hbl hn
  simp only [q4q, q15q]
  by_cases hab : a < b
  ·have d : decide ((a : Int) < (b : Int)) = true := by simp; exact hab
   have hm : (a + b) / 2 < l.length := by omega
   simp only [d, if_true, mid_s (show a + b < 1000000000 by omega), idx_lt hm, Option.bind_some, hf _ (List.getElem_mem hm)]
   by_cases hlt : f l[(a + b) / 2] < 0
   ·have := (h _ hm).2 hlt
    simp only [hlt, decide_true, if_true, nxtN (show (a + b) / 2 < 1000000000 by omega)]
    exact ih _ _ (by omega) hkb hbl (by omega)
   ·have : ¬ (a + b) / 2 < k := fun hc => hlt ((h _ hm).1 hc)
    simp only [hlt, decide_false, Bool.false_eq_true, if_false]
    exact ih _ _ ha (by omega) (by omega) (by omega)
  ·have d : decide ((a : Int) < (b : Int)) = false := by simp; omega
   have hak : a = k := by omega
   subst hak
   simp only [d, Bool.false_eq_true, if_false]
   by_cases hal : a < l.length
   ·have d2 : decide ((a : Int) < (l.length : Int)) = true := by simp; exact hal
    simp only [d2, if_true, idx_lt hal, Option.bind_some, hf _ (List.getElem_mem hal), List.getElem?_eq_getElem hal]
   ·have d2 : decide ((a : Int) < (l.length : Int)) = false := by simp; omega
    simp only [d2, Bool.false_eq_true, if_false, Option.bind_some, List.getElem?_eq_none (show l.length ≤ a by omega)]
theorem placeB_at {l : List GBag} (hs : SortB l) (c : Int) : placeB l c = if (match l[cutB l c]? with | some y => cmpS y.Bag c == 0 | .none => false) = true then some (cutB l c) else .none := by
 have h := cutB_iff hs c
 have hk := cutB_le l c
 generalize cutB l c = k at h hk
 by_cases hkl : k < l.length
 ·rw [List.getElem?_eq_getElem hkl]
  simp only [beq_iff_eq, cmpS_zero]
  split
  ·rename_i hc
   unfold placeB
   rw [List.findIdx?_eq_some_iff_getElem]
   refine ⟨hkl, by simpa using hc, fun j hj => ?_⟩
   have := (h j (by omega)).1 hj
   simp; omega
  ·rename_i hc
   unfold placeB
   rw [List.findIdx?_eq_none_iff]
   intro y hy
   obtain ⟨q, hq, rfl⟩ := List.getElem_of_mem hy
   have h2 := h q hq
   rcases Nat.lt_trichotomy q k with hqk | rfl | hqk
   ·have := h2.1 hqk; simp; omega
   ·simpa using hc
   ·have h3 := List.pairwise_iff_getElem.1 hs k q hkl hq hqk
    have h4 := h k hkl
    simp; omega
 ·rw [List.getElem?_eq_none (by omega)]
  simp only [Bool.false_eq_true, if_false]
  unfold placeB
  rw [List.findIdx?_eq_none_iff]
  intro y hy
  obtain ⟨q, hq, rfl⟩ := List.getElem_of_mem hy
  have := (h q hq).1 (by omega)
  simp; omega
theorem placeB_cut {l : List GBag} (hs : SortB l) {c : Int} {j : Nat} (h : placeB l c = some j) : j = cutB l c := by
 rw [placeB_at hs] at h
 by_cases hc : (match l[cutB l c]? with | some y => cmpS y.Bag c == 0 | .none => false) = true
 ·rw [if_pos hc] at h; exact (Option.some.inj h).symm
 ·rw [if_neg hc] at h; cases h
theorem placeB_get {l : List GBag} {c : Int} {j : Nat} (h : placeB l c = some j) : ∃ hj : j < l.length, l[j].Bag = c := by
 unfold placeB at h
 rw [List.findIdx?_eq_some_iff_getElem] at h
 exact ⟨h.1, by simpa using h.2.1⟩
theorem bsB {F : Nat} {l : List GBag} {c : Int} (hs : SortB l) (hb : l.length < 1000000) (hFl : l.length < F) :
  q12q F l c (fun a0 a1 => q106q a0 a1) = some ((cutB l c : Int), (placeB l c).isSome) := by
 have h1 : ∀ y ∈ l, q106q y c = some (cmpS y.Bag c) := fun y _ => by simp [q106q, compare_s]
 have hl := bsearch_loop (l := l) (x := c) (p2 := fun a0 a1 => q106q a0 a1) (f := fun y => cmpS y.Bag c) hb (cutB_le l c) h1 (fun q hq => by rw [cutB_iff hs c q hq, cmpS_lt]) F 0 l.length (by omega) (cutB_le l c) (by omega) (by omega)
 unfold q12q
 rw [show (0 : Int) = ((0 : Nat) : Int) from rfl, hl, placeB_at hs]
 congr 2
 cases hc : (match l[cutB l c]? with | some y => cmpS y.Bag c == 0 | .none => false) <;> simp
def firstM : List q0q → Option Int
 | [] => some 0
 | c :: s => (c.holds.m).bind fun r => if r = true then some c.code else firstM s
theorem first_loop : ∀ (s p : List q0q) (n : Nat), (p ++ s).length < 1000000 → s.length < n → q66q (p ++ s) n (p.length : Int) = firstM s := by
 intro s
 induction s with
 | nil => intro p n hb hn; cases n with
  | zero => omega
  | succ n => simp only [q66q, q113q, dge, Bool.false_eq_true, if_false, firstM]
 | cons x s ih => intro p n hb hn; cases n with
  | zero => omega
  | succ n =>
   have hl : p.length < 1000000 := by simp at hb; omega
   have h1 := ih (p ++ [x]) n (by simpa using hb) (by simpa using hn)
   simp only [q66q, q113q, dlt, if_true, idx_at, Option.bind_some, firstM]
   rw [nxt p x (by omega), snoc, h1]
theorem first_s {F : Nat} {l : List q0q} (hb : l.length < 1000000) (hF : l.length < F) : q167q F l = firstM l := first_loop l [] F (by simpa using hb) hF
theorem cloneBag_s {b : GBag} (h1 : b.Seals.length < 1000000) (h2 : b.Packed.length < 1000000) (h3 : b.Found.length < 1000000) : q53q b = some b := by
 unfold q53q
 rw [app_of (by simp; omega), Option.bind_some, app_of (by simp; omega), Option.bind_some, app_of (by simp; omega)]
 simp
theorem clone_loop {F : Nat} {l : List GBag} (h : BShort F l) (z : GBag) : ∀ (s p : List GBag) (n : Nat), l = p ++ s → s.length < n → q44q l n (p.length : Int) (p ++ List.replicate s.length z) = some l := by
 intro s
 induction s with
 | nil => intro p n hp hn; cases n with
  | zero => omega
  | succ n =>
   have : l = p := by simpa using hp
   subst this
   simp only [q44q, q64q, Int.lt_irrefl, decide_false, Bool.false_eq_true, if_false, List.length_nil, List.replicate_zero, List.append_nil]
 | cons x s ih => intro p n hp hn; cases n with
  | zero => omega
  | succ n =>
   have hlen : p.length < 1000000 := by have := h.len; rw [hp] at this; simp at this; omega
   have d1 : decide ((p.length : Int) < (l.length : Int)) = true := by rw [hp]; exact dlt p x s
   have i1 : idx l (p.length : Int) = some x := by rw [hp]; exact idx_at p x s
   have hx : x ∈ l := by rw [hp]; simp
   simp only [q44q, q64q, d1, if_true, i1, Option.bind_some, List.length_cons, List.replicate_succ, cloneBag_s (h.sl x hx).1 (h.pk x hx).1 (h.fd x hx).1]
   rw [idx_mid rfl, set_mid rfl]
   simp only [Option.bind_some, nxtN (show p.length < 1000000000 by omega)]
   have e1 : p ++ x :: List.replicate s.length z = (p ++ [x]) ++ List.replicate s.length z := by simp
   have e2 : ((p.length + 1 : Nat) : Int) = ((p ++ [x]).length : Int) := by simp
   rw [e1, e2]
   exact ih (p ++ [x]) n (by simp [hp]) (by simpa using hn)
theorem cloneBags_s {F : Nat} {l : List GBag} (h : BShort F l) : q101q F l = some l := by
 unfold q101q
 rw [mkl_of (by have := h.len; omega), Option.bind_some]
 exact clone_loop h _ l [] F rfl h.lenF
end Go.Sh
set_option linter.unusedVariables false
set_option linter.unusedSimpArgs false
namespace Go.Sh
open Go.L

def firstP : List (Int × Option Bool) → Option Int
 | [] => some 0
 | c :: s => (c.2).bind fun r => if r = true then some c.1 else firstP s
theorem firstM_p : ∀ l : List q0q, firstM l = firstP (l.map fun c => (c.code, c.holds.m))
 | [] => rfl
 | c :: s => by simp only [firstM, List.map_cons, firstP, firstM_p s]
def inR (n m : Int) : Bool := (decide (n ≥ 0)) && (decide (n ≤ m))
def badE (e : Gq0) : Bool := (decide (e.Kind < 1)) || ((decide (e.Kind > 4)) || ((!inR e.Bag 9999) || ((!inR e.Seal 1000000) || (!inR e.From 99))))
def badV (e : Gq0) : Bool := badE e || (if e.Kind = 2 then !inR e.To 99 else if e.Kind = 1 ∨ e.Kind = 3 then !srt e.Candidates else false)
def forE (e : Gq0) : Bool := (e.Stamp.Source != 0) && (e.Stamp.Source != e.From)
def errN (l : List GBag) (e : Gq0) (there : Bool) : Int :=
 if e.From = 0 then 8 else if there = true then 5 else if (inS l e.Seal || e.Candidates.any (inP l)) = true then 9 else if 20 ≤ l.length then 3 else 0
def stO (b : GBag) (e : Gq0) : Bool := b.Open || ((b.Holder != e.From) || (((e.Kind == 2) && (e.To == e.From)) || ((e.Kind == 3) && (e.From != 0))))
def errO (l : List GBag) (b : GBag) (e : Gq0) : Int :=
 if stO b e = true then 8 else if (if e.Kind = 4 then inS l e.Seal else decide (b.Seals.getLast? ≠ some e.Seal)) = true then 9 else if e.Kind = 4 ∧ 300 ≤ b.Seals.length then 3 else 0
def stepE (l : List GBag) (e : Gq0) : Int :=
 if badV e = true then 2 else if forE e = true then 28 else if e.Kind = 1 then errN l e (placeB l e.Bag).isSome
 else match placeB l e.Bag with
  | .none => 4
  | some k => match l[k]? with
   | some b => errO l b e
   | .none => 0
def newB (b : GBag) (e : Gq0) : GBag :=
 if e.Kind = 2 then ⟨b.Bag, e.To, b.Open, b.Seals, b.Packed, b.Found⟩
 else if e.Kind = 3 then ⟨b.Bag, b.Holder, true, b.Seals, b.Packed, e.Candidates⟩
 else ⟨b.Bag, b.Holder, b.Open, b.Seals ++ [e.Seal], b.Packed, b.Found⟩
def bagOf (e : Gq0) : GBag := ⟨e.Bag, e.From, false, [e.Seal], e.Candidates, []⟩
def stepL (l : List GBag) (e : Gq0) : List GBag :=
 if e.Kind = 1 then l.take (cutB l e.Bag) ++ [bagOf e] ++ l.drop (cutB l e.Bag)
 else match placeB l e.Bag with
  | .none => l
  | some k => match l[k]? with
   | some b => l.set k (newB b e)
   | .none => l
def stepC (l : List GBag) (e : Gq0) : List GBag × Int := if stepE l e ≠ 0 then ([], stepE l e) else (stepL l e, 0)
theorem kinds {e : Gq0} (h : badV e = false) : e.Kind = 1 ∨ e.Kind = 2 ∨ e.Kind = 3 ∨ e.Kind = 4 := by
 unfold badV badE at h
 simp only [Bool.or_eq_false_iff, decide_eq_false_iff_not] at h
 omega
theorem outOfRange_s {F : Nat} {e : Gq0} (hF : 60 < F) : q114q F e = some (badV e) := by
 unfold q114q
 have key : (if decide (e.Kind < 1) = true then some true else if decide (e.Kind > 4) = true then some true else (q168q e.Bag).bind fun r5 => if (!r5) = true then some true else (q165q e.Seal).bind fun r7 => if (!r7) = true then some true else (q105q e.From).bind fun r9 => some (!r9)) = some (badE e) := by
  unfold badE q168q q165q q105q
  simp only [Option.bind_some]
  show (if decide (e.Kind < 1) = true then some true else if decide (e.Kind > 4) = true then some true else if (!inR e.Bag 9999) = true then some true else if (!inR e.Seal 1000000) = true then some true else some (!inR e.From 99)) = _
  cases decide (e.Kind < 1) <;> cases decide (e.Kind > 4) <;> cases (!inR e.Bag 9999) <;> cases (!inR e.Seal 1000000) <;> simp
 rw [key]
 simp only [Option.bind_some, sorted_s hF]
 unfold badV
 cases hb : badE e with
 | true => simp
 | false =>
  simp only [Bool.false_eq_true, if_false, Bool.false_or, beq_iff_eq]
  by_cases h2 : e.Kind = 2
  ·simp only [h2, if_true]; rfl
  ·simp only [h2, if_false]
   by_cases h1 : e.Kind = 1
   ·simp [h1]
   ·by_cases h3 : e.Kind = 3
    ·simp [h3]
    ·simp [h1, h3]
theorem last_idx {l : List Int} (h : l ≠ []) (hb : l.length < 1000000) : idx l (i64 ((l.length : Int) - 1)) = l.getLast? := by
 rcases List.eq_nil_or_concat l with rfl | ⟨q, y, rfl⟩
 ·exact absurd rfl h
 ·simp only [List.concat_eq_append] at hb ⊢
  rw [i64_of (by simp <;> omega) (by simp at hb ⊢; omega), List.getLast?_concat]
  have : ((q ++ [y]).length : Int) - 1 = (q.length : Int) := by simp
  rw [this]; exact idx_at q y []
structure BOk (F : Nat) (l : List GBag) : Prop extends BShort F l where
 sort : SortB l
 some : ∀ b ∈ l, b.Seals ≠ []
theorem step_s {F : Nat} {l : List GBag} {e : Gq0} (h : BOk F l) (hF : 100 < F) (hc : e.Candidates.length < 1000000 ∧ e.Candidates.length < F) : q181q F l e = some (stepC l e) := by
 unfold q181q
 rw [bsB h.sort h.len h.lenF]
 simp only [Option.bind_some]
 have hk := cutB_le l e.Bag
 by_cases h1 : e.Kind = 1
 ·have b1 : (e.Kind == 1) = true := by simp [h1]
  simp only [b1, if_true, q50q, Option.bind_some]
  rw [app_of (by simp)]
  simp only [Option.bind_some, List.cons_append, List.nil_append]
  rw [first_s (by simp) (by simp; omega), firstM_p]
  simp only [List.map_cons, List.map_nil]
  have hany : q22q F e.Candidates (fun a0 => q49q F a0 l) = some (e.Candidates.any (inP l)) :=
   containsI_s (inP l) (fun x _ => by unfold q49q; rw [inBagsP h.toBShort]; rfl) hc.1 hc.2
  have hfirst : firstP [(2, q18q F e), (28, q19q e), (8, q23q e), (5, q24q (placeB l e.Bag).isSome), (9, q25q F l e), (3, q26q l)] = some (stepE l e) := by
   simp only [firstP, q18q, q19q, q23q, q24q, q25q, q26q, outOfRange_s (show 60 < F by omega), inBagsS h.toBShort, hany, Option.bind_some]
   unfold stepE errN
   cases badV e with
   | true => simp
   | false =>
    show (if false = true then _ else if forE e = true then _ else _) = _
    cases forE e with
    | true => simp
    | false =>
     simp only [Bool.false_eq_true, if_false, h1, if_true, beq_iff_eq]
     by_cases hf : e.From = 0
     ·simp [hf]
     ·simp only [hf, if_false]
      cases (placeB l e.Bag).isSome with
      | true => simp
      | false =>
       simp only [Bool.false_eq_true, if_false]
       by_cases h20 : 20 ≤ l.length
       ·have : (20 : Int) ≤ (l.length : Int) := by omega
        cases inS l e.Seal <;> cases e.Candidates.any (inP l) <;> simp [h20, this]
       ·have : ¬ (20 : Int) ≤ (l.length : Int) := by omega
        cases inS l e.Seal <;> cases e.Candidates.any (inP l) <;> simp [h20, this]
  rw [hfirst]
  simp only [Option.bind_some]
  unfold stepC
  by_cases h0 : stepE l e = 0
  ·simp only [h0, bne_self_eq_false, Bool.false_eq_true, if_false, cloneBags_s h.toBShort, Option.bind_some, ne_eq, not_true_eq_false]
   rw [app_of (by simp; omega), Option.bind_some, List.nil_append]
   unfold insF
   rw [if_pos ⟨by omega, by omega, by have := h.len; omega⟩]
   simp only [Option.bind_some, stepL, h1, if_true, bagOf, Int.toNat_natCast]
  ·have : (stepE l e != 0) = true := by simp [h0]
   simp [this, h0]
 ·have b1 : (e.Kind == 1) = false := by simp [h1]
  simp only [b1, Bool.false_eq_true, if_false, q51q, Option.bind_some]
  rw [app_of (by simp)]
  simp only [Option.bind_some, List.cons_append, List.nil_append]
  rw [first_s (by simp) (by simp; omega), firstM_p]
  simp only [List.map_cons, List.map_nil]
  have hfirst : firstP [(2, q18q F e), (28, q19q e), (4, q27q (placeB l e.Bag).isSome), (8, q28q l (cutB l e.Bag) e), (9, q29q F e l (cutB l e.Bag)), (3, q30q e l (cutB l e.Bag))] = some (stepE l e) := by
   simp only [firstP, q18q, q19q, q27q, outOfRange_s (show 60 < F by omega), Option.bind_some]
   unfold stepE
   cases hbv : badV e with
   | true => simp
   | false =>
    show (if false = true then _ else if forE e = true then _ else _) = _
    cases forE e with
    | true => simp
    | false =>
     simp only [Bool.false_eq_true, if_false, h1]
     cases hp : placeB l e.Bag with
     | none => simp
     | some j =>
      have hj := placeB_cut h.sort hp
      obtain ⟨hjl, _⟩ := placeB_get hp
      rw [← hj]
      have e1 : l[j]? = some l[j] := List.getElem?_eq_getElem hjl
      have hmem : l[j] ∈ l := List.getElem_mem hjl
      have i1 : idx l (j : Int) = some l[j] := by rw [idx_nat]; exact e1
      have hls := last_idx (h.some _ hmem) (h.sl _ hmem).1
      obtain ⟨y, hy⟩ : ∃ y, l[j].Seals.getLast? = some y := by
       cases hq : l[j].Seals.getLast? with
       | none => exact absurd (List.getLast?_eq_none_iff.1 hq) (h.some _ hmem)
       | some y => exact ⟨y, rfl⟩
      rw [hy] at hls
      simp only [Option.isSome_some, Bool.not_true, Bool.false_eq_true, if_false, e1, errO, q28q, q29q, q30q, i1, Option.bind_some, inBagsS h.toBShort, hls, hy]
      have k2 : (if l[j].Open = true then some true else if (l[j].Holder != e.From) = true then some true else if (e.Kind == 2) = true then if (e.To == e.From) = true then some true else if (e.Kind == 3) = true then some (e.From != 0) else some false else if (e.Kind == 3) = true then some (e.From != 0) else some false) = some (stO l[j] e) := by
       unfold stO
       cases l[j].Open <;> cases (l[j].Holder != e.From) <;> cases (e.Kind == 2) <;> cases (e.To == e.From) <;> cases (e.Kind == 3) <;> simp
      rw [k2]
      simp only [Option.bind_some]
      cases stO l[j] e with
      | true => simp
      | false =>
       simp only [Bool.false_eq_true, if_false]
       by_cases h4 : e.Kind = 4
       ·have b4 : (e.Kind == 4) = true := by simp [h4]
        simp only [h4, b4, if_true, Option.bind_some, true_and]
        cases inS l e.Seal with
        | true => simp
        | false =>
         by_cases h3 : 300 ≤ l[j].Seals.length
         ·have : (300 : Int) ≤ (l[j].Seals.length : Int) := by omega
          simp [h3, this]
         ·have : ¬ (300 : Int) ≤ (l[j].Seals.length : Int) := by omega
          simp [h3, this]
       ·have b4 : (e.Kind == 4) = false := by simp [h4]
        simp only [h4, b4, Bool.false_eq_true, if_false, Option.bind_some, false_and]
        by_cases hys : y = e.Seal
        ·simp [hys]
        ·have : (y != e.Seal) = true := by simp [hys]
         simp [this, hys]
  rw [hfirst]
  simp only [Option.bind_some]
  unfold stepC
  by_cases h0 : stepE l e = 0
  ·have hbv : badV e = false := by
    cases hbv : badV e with
    | false => rfl
    | true => unfold stepE at h0; simp [hbv] at h0
   have hp : ∃ j, placeB l e.Bag = some j := by
    cases hp : placeB l e.Bag with
    | some j => exact ⟨j, rfl⟩
    | none =>
     exfalso
     unfold stepE at h0
     rw [hbv, hp] at h0
     cases hf : forE e <;> simp [hf, h1] at h0
   obtain ⟨j, hp⟩ := hp
   have hj := placeB_cut h.sort hp
   obtain ⟨hjl, _⟩ := placeB_get hp
   have e1 : l[j]? = some l[j] := List.getElem?_eq_getElem hjl
   have i1 : idx l (j : Int) = some l[j] := by rw [idx_nat]; exact e1
   have hmem : l[j] ∈ l := List.getElem_mem hjl
   simp only [h0, bne_self_eq_false, Bool.false_eq_true, if_false, cloneBags_s h.toBShort, Option.bind_some, ne_eq, not_true_eq_false, ← hj, i1, stepL, h1, hp, e1, newB, Int.toNat_natCast]
   have hset : ∀ x : GBag, idx (l.set j x) (j : Int) = some x := fun x => by rw [idx_nat]; simp [hjl]
   rcases kinds hbv with hk | hk | hk | hk
   ·exact absurd hk h1
   ·simp [hk]
   ·simp only [hk]
    rw [app_of (by simp; omega)]
    simp [hset]
   ·have ha : app l[j].Seals [e.Seal] = some (l[j].Seals ++ [e.Seal]) := app_of (by have := (h.sl _ hmem).1; simp; omega)
    simp [hk, ha]
  ·have : (stepE l e != 0) = true := by simp [h0]
   simp [this, h0]
end Go.Sh
set_option linter.unusedVariables false
set_option linter.unusedSimpArgs false
namespace Go.Sh
open Go.L

def okR (b : GBag) : Bool := inR b.Bag 9999 && (inR b.Holder 99 && (decide (1 ≤ b.Seals.length) && (decide (b.Seals.length ≤ 300) && b.Seals.all fun s => inR s 1000000)))
def okS (b : GBag) : Bool := srt b.Packed && srt b.Found
def okT (b : GBag) : Bool := if b.Open = true then decide (b.Holder = 0) else decide (b.Found.length = 0)
def ascB : List GBag → Bool
 | [] => true
 | x :: s => (match s with | [] => true | y :: _ => decide (x.Bag < y.Bag)) && ascB s
def dupB (l : List GBag) : Bool := decide (¬ (l.flatMap (·.Seals)).Nodup) || decide (¬ (l.flatMap (·.Packed)).Nodup)
def checkC (l : List GBag) : Int := if 20 < l.length then 3 else if l.all okR = false then 2 else if l.all okS = false then 1 else if l.all okT = false then 8 else if ascB l = false then 5 else if dupB l = true then 9 else 0
end Go.Sh
set_option linter.unusedVariables false
set_option linter.unusedSimpArgs false
namespace Go.Sh
open Go.L

structure Val (l : List GBag) : Prop where
 len : l.length ≤ 20
 r : ∀ b ∈ l, okR b = true
 s : ∀ b ∈ l, okS b = true
 t : ∀ b ∈ l, okT b = true
 sort : SortB l
 seals : (l.flatMap (·.Seals)).Nodup
 packed : (l.flatMap (·.Packed)).Nodup
theorem asc_sort : ∀ {l : List GBag}, ascB l = true ↔ SortB l
 | [] => by simp [ascB, SortB]
 | [x] => by simp [ascB, SortB]
 | x :: y :: s => by
  have ih := asc_sort (l := y :: s)
  simp only [ascB, Bool.and_eq_true, decide_eq_true_eq] at ih ⊢
  unfold SortB at ih ⊢
  rw [List.pairwise_cons, ih]
  constructor
  ·rintro ⟨h1, h2⟩
   refine ⟨fun a ha => ?_, h2⟩
   rcases List.mem_cons.1 ha with rfl | ha
   ·exact h1
   ·have := (List.pairwise_cons.1 h2).1 a ha; omega
  ·rintro ⟨h1, h2⟩
   exact ⟨h1 y (by simp), h2⟩
theorem check_val {l : List GBag} : checkC l = 0 ↔ Val l := by
 unfold checkC
 constructor
 ·intro h
  by_cases h1 : 20 < l.length
  ·simp [h1] at h
  ·by_cases h2 : l.all okR = true
   ·by_cases h3 : l.all okS = true
    ·by_cases h4 : l.all okT = true
     ·by_cases h5 : ascB l = true
      ·by_cases h6 : dupB l = true
       ·simp [h1, h2, h3, h4, h5, h6] at h
       ·have h6' : dupB l = false := by simpa using h6
        unfold dupB at h6'
        simp only [Bool.or_eq_false_iff, decide_eq_false_iff_not, Decidable.not_not] at h6'
        exact ⟨by omega, List.all_eq_true.1 h2, List.all_eq_true.1 h3, List.all_eq_true.1 h4, asc_sort.1 h5, h6'.1, h6'.2⟩
      ·simp [h1, h2, h3, h4, h5] at h
     ·simp only [Bool.not_eq_true] at h4; simp [h1, h2, h3, h4] at h
    ·simp only [Bool.not_eq_true] at h3; simp [h1, h2, h3] at h
   ·simp only [Bool.not_eq_true] at h2; simp [h1, h2] at h
 ·intro h
  have h1 : ¬ 20 < l.length := by have := h.len; omega
  have h2 : l.all okR = true := List.all_eq_true.2 h.r
  have h3 : l.all okS = true := List.all_eq_true.2 h.s
  have h4 : l.all okT = true := List.all_eq_true.2 h.t
  have h5 : ascB l = true := asc_sort.2 h.sort
  have h6 : dupB l = false := by
   unfold dupB
   simp [h.seals, h.packed]
  simp [h1, h2, h3, h4, h5, h6]
theorem okR_len {b : GBag} (h : okR b = true) : b.Seals.length ≤ 300 ∧ b.Seals ≠ [] := by
 unfold okR at h
 simp only [Bool.and_eq_true, decide_eq_true_eq] at h
 refine ⟨h.2.2.2.1, fun h0 => ?_⟩
 have := h.2.2.1
 rw [h0] at this; simp at this
theorem srt_len {l : List Int} (h : srt l = true) : l.length ≤ 60 := by
 unfold srt at h
 simp only [Bool.and_eq_true, decide_eq_true_eq] at h
 exact h.1
theorem Val.ok {F : Nat} {l : List GBag} (h : Val l) (hF : 400 < F) : BOk F l where
 len := by have := h.len; omega
 lenF := by have := h.len; omega
 sl b hb := by have := (okR_len (h.r b hb)).1; omega
 pk b hb := by have := h.s b hb; unfold okS at this; rw [Bool.and_eq_true] at this; have := srt_len this.1; omega
 fd b hb := by have := h.s b hb; unfold okS at this; rw [Bool.and_eq_true] at this; have := srt_len this.2; omega
 sort := h.sort
 some b hb := (okR_len (h.r b hb)).2
theorem val_nil : Val [] := ⟨by simp, by simp, by simp, by simp, by simp [SortB], by simp, by simp⟩
theorem inS_mem {l : List GBag} {n : Int} : inS l n = true ↔ n ∈ l.flatMap (·.Seals) := by simp [inS, List.mem_flatMap]
theorem inP_mem {l : List GBag} {n : Int} : inP l n = true ↔ n ∈ l.flatMap (·.Packed) := by simp [inP, List.mem_flatMap]
theorem srtL_nodup : ∀ {l : List Int} {p : Option Int}, srtL p l = true → l.Pairwise (· < ·) ∧ ∀ q, p = some q → ∀ x ∈ l, q < x
 | [], p, _ => by simp
 | x :: s, p, h => by
  simp only [srtL, Bool.and_eq_true, Bool.not_eq_true', Bool.or_eq_false_iff, decide_eq_false_iff_not] at h
  obtain ⟨⟨h1, h2, h3⟩, h4⟩ := h
  obtain ⟨h5, h6⟩ := srtL_nodup h4
  refine ⟨List.pairwise_cons.2 ⟨h6 x rfl, h5⟩, fun q hq y hy => ?_⟩
  subst hq
  simp only [decide_eq_false_iff_not] at h3
  rcases List.mem_cons.1 hy with rfl | hy
  ·omega
  ·have := h6 x rfl y hy; omega
theorem srt_nodup {l : List Int} (h : srt l = true) : l.Nodup := by
 unfold srt at h
 rw [Bool.and_eq_true] at h
 have := (srtL_nodup h.2).1
 exact this.imp fun h => by omega
theorem stepE_zero {l : List GBag} {e : Gq0} (h : stepE l e = 0) : badV e = false ∧ forE e = false ∧ ((e.Kind = 1 ∧ errN l e (placeB l e.Bag).isSome = 0) ∨ (e.Kind ≠ 1 ∧ ∃ k, ∃ hk : k < l.length, placeB l e.Bag = some k ∧ errO l l[k] e = 0)) := by
 unfold stepE at h
 cases hb : badV e with
 | true => simp [hb] at h
 | false =>
  cases hf : forE e with
  | true => simp [hb, hf] at h
  | false =>
   refine ⟨rfl, rfl, ?_⟩
   simp only [hb, hf, Bool.false_eq_true, if_false] at h
   by_cases h1 : e.Kind = 1
   ·simp only [h1, if_true] at h; exact .inl ⟨h1, h⟩
   ·simp only [h1, if_false] at h
    cases hp : placeB l e.Bag with
    | none => simp [hp] at h
    | some k =>
     obtain ⟨hk, _⟩ := placeB_get hp
     rw [hp, ] at h
     simp only [List.getElem?_eq_getElem hk] at h
     exact .inr ⟨h1, k, hk, rfl, h⟩
theorem errN_zero {l : List GBag} {e : Gq0} {b : Bool} (h : errN l e b = 0) : e.From ≠ 0 ∧ b = false ∧ inS l e.Seal = false ∧ (∀ c ∈ e.Candidates, inP l c = false) ∧ l.length < 20 := by
 unfold errN at h
 by_cases h1 : e.From = 0
 ·simp [h1] at h
 ·cases b with
  | true => simp [h1] at h
  | false =>
   by_cases h2 : (inS l e.Seal || e.Candidates.any (inP l)) = true
   ·simp only [h1, if_false, Bool.false_eq_true, h2, if_true] at h; simp at h
   ·by_cases h3 : 20 ≤ l.length
    ·simp only [h1, if_false, Bool.false_eq_true, h2, h3, if_true] at h; simp at h
    ·simp only [Bool.not_eq_true, Bool.or_eq_false_iff, List.any_eq_false] at h2
     exact ⟨h1, rfl, h2.1, fun c hc => by simpa using h2.2 c hc, by omega⟩
theorem errO_zero {l : List GBag} {b : GBag} {e : Gq0} (h : errO l b e = 0) : stO b e = false ∧ (e.Kind = 4 → inS l e.Seal = false ∧ b.Seals.length < 300) ∧ (e.Kind ≠ 4 → b.Seals.getLast? = some e.Seal) := by
 unfold errO at h
 cases hs : stO b e with
 | true => simp [hs] at h
 | false =>
  simp only [hs, Bool.false_eq_true, if_false] at h
  refine ⟨rfl, fun h4 => ?_, fun h4 => ?_⟩
  ·simp only [h4, if_true, true_and] at h
   cases hi : inS l e.Seal with
   | true => simp [hi] at h
   | false =>
    by_cases h3 : 300 ≤ b.Seals.length
    ·simp [hi, h3] at h
    ·exact ⟨rfl, by omega⟩
  ·simp only [h4, if_false, false_and] at h
   by_cases hy : b.Seals.getLast? = some e.Seal
   ·exact hy
   ·simp [hy] at h
theorem badV_parts {e : Gq0} (h : badV e = false) : inR e.Bag 9999 = true ∧ inR e.Seal 1000000 = true ∧ inR e.From 99 = true ∧ (e.Kind = 2 → inR e.To 99 = true) ∧ (e.Kind = 1 ∨ e.Kind = 3 → srt e.Candidates = true) := by
 unfold badV badE at h
 simp only [Bool.or_eq_false_iff, Bool.not_eq_false'] at h
 obtain ⟨⟨_, _, h1, h2, h3⟩, h4⟩ := h
 refine ⟨h1, h2, h3, fun hk => ?_, fun hk => ?_⟩
 ·simpa [hk] using h4
 ·rcases hk with hk | hk <;> simpa [hk] using h4
theorem flat_set_perm {l : List GBag} {k : Nat} (hk : k < l.length) {b : GBag} (f : GBag → List Int) : ∃ p q, l.flatMap f = p ++ f l[k] ++ q ∧ (l.set k b).flatMap f = p ++ f b ++ q := by
 refine ⟨(l.take k).flatMap f, (l.drop (k + 1)).flatMap f, ?_, ?_⟩
 ·have e1 : l = l.take k ++ l[k] :: l.drop (k + 1) := by rw [← List.drop_eq_getElem_cons hk, List.take_append_drop]
  have e2 := congrArg (List.flatMap f) e1
  rw [List.flatMap_append, List.flatMap_cons] at e2
  rw [e2, List.append_assoc]
 ·rw [List.set_eq_take_append_cons_drop, if_pos hk]
  simp [List.append_assoc]
theorem sort_set {l : List GBag} (hs : SortB l) {k : Nat} (hk : k < l.length) {b : GBag} (hb : b.Bag = l[k].Bag) : SortB (l.set k b) := by
 unfold SortB at *
 rw [List.pairwise_iff_getElem] at hs ⊢
 intro i j hi hj hij
 rw [List.getElem_set, List.getElem_set]
 have hi' : i < l.length := by simpa using hi
 have hj' : j < l.length := by simpa using hj
 split
 ·rename_i h1
  split
  ·omega
  ·subst h1; rw [hb]; exact hs _ _ hi' hj' hij
 ·split
  ·rename_i h1 h2; subst h2; rw [hb]; exact hs _ _ hi' hj' hij
  ·exact hs _ _ hi' hj' hij
theorem sort_ins {l : List GBag} (hs : SortB l) {n : Int} (hn : placeB l n = .none) {b : GBag} (hb : b.Bag = n) : SortB (l.take (cutB l n) ++ [b] ++ l.drop (cutB l n)) := by
 have hc := cutB_iff hs n
 have hk := cutB_le l n
 have hne : ∀ x ∈ l, x.Bag ≠ n := fun x hx h => by
  unfold placeB at hn
  rw [List.findIdx?_eq_none_iff] at hn
  have := hn x hx
  simp [h] at this
 generalize cutB l n = k at hc hk
 have h1 : ∀ x ∈ l.take k, x.Bag < n := fun x hx => by
  obtain ⟨q, hq, rfl⟩ := List.getElem_of_mem hx
  simp only [List.length_take] at hq
  rw [List.getElem_take]
  exact (hc q (by omega)).1 (by omega)
 have h2 : ∀ x ∈ l.drop k, n < x.Bag := fun x hx => by
  obtain ⟨q, hq, rfl⟩ := List.getElem_of_mem hx
  simp only [List.length_drop] at hq
  rw [List.getElem_drop]
  have := (hc (k + q) (by omega))
  have h3 := hne _ (List.getElem_mem (show k + q < l.length by omega))
  omega
 unfold SortB at *
 rw [List.append_assoc, List.pairwise_append]
 refine ⟨hs.sublist (List.take_sublist _ _), ?_, ?_⟩
 ·rw [List.singleton_append, List.pairwise_cons]
  exact ⟨fun x hx => by rw [hb]; exact h2 x hx, hs.sublist (List.drop_sublist _ _)⟩
 ·intro x hx y hy
  rw [List.singleton_append] at hy
  rcases List.mem_cons.1 hy with rfl | hy
  ·rw [hb]; exact h1 x hx
  ·have := h1 x hx; have := h2 y hy; omega
theorem newB_bag {b : GBag} {e : Gq0} : (newB b e).Bag = b.Bag := by
 unfold newB
 split
 ·rfl
 ·split <;> rfl
theorem newB_packed {b : GBag} {e : Gq0} : (newB b e).Packed = b.Packed := by
 unfold newB
 split
 ·rfl
 ·split <;> rfl
theorem step_val {l : List GBag} {e : Gq0} (h : Val l) (h0 : stepE l e = 0) : Val (stepL l e) := by
 obtain ⟨hb, hf, hc⟩ := stepE_zero h0
 obtain ⟨p1, p2, p3, p4, p5⟩ := badV_parts hb
 rcases hc with ⟨h1, hn⟩ | ⟨h1, k, hk, hp, ho⟩
 ·obtain ⟨q1, q2, q3, q4, q5⟩ := errN_zero hn
  have hpn : placeB l e.Bag = .none := by
   cases hp : placeB l e.Bag with
   | none => rfl
   | some k => rw [hp] at q2; simp at q2
  have hcs := p5 (.inl h1)
  unfold stepL
  simp only [h1, if_true]
  have hmem : ∀ b, b ∈ l.take (cutB l e.Bag) ++ [bagOf e] ++ l.drop (cutB l e.Bag) → b ∈ l ∨ b = bagOf e := fun b hb' => by
   simp only [List.mem_append, List.mem_singleton] at hb'
   rcases hb' with (h | h) | h
   ·exact .inl (List.mem_of_mem_take h)
   ·exact .inr h
   ·exact .inl (List.mem_of_mem_drop h)
  have hflat : ∀ f : GBag → List Int, ((l.take (cutB l e.Bag) ++ [bagOf e] ++ l.drop (cutB l e.Bag)).flatMap f).Perm (f (bagOf e) ++ l.flatMap f) := fun f => by
   have e1 : l.flatMap f = (l.take (cutB l e.Bag)).flatMap f ++ (l.drop (cutB l e.Bag)).flatMap f := by rw [← List.flatMap_append, List.take_append_drop]
   rw [e1, List.flatMap_append, List.flatMap_append]
   simp only [List.flatMap_singleton]
   rw [← List.append_assoc]
   exact List.Perm.append_right _ List.perm_append_comm
  refine ⟨?_, fun b hb' => ?_, fun b hb' => ?_, fun b hb' => ?_, sort_ins h.sort hpn rfl, ?_, ?_⟩
  ·simp; have := cutB_le l e.Bag; omega
  ·rcases hmem b hb' with h' | rfl
   ·exact h.r b h'
   ·simp [okR, bagOf, p1, p3, p2]
  ·rcases hmem b hb' with h' | rfl
   ·exact h.s b h'
   ·have h6 : srt ([] : List Int) = true := rfl
    simp [okS, bagOf, hcs, h6]
  ·rcases hmem b hb' with h' | rfl
   ·exact h.t b h'
   ·simp [okT, bagOf]
  ·rw [(hflat _).nodup_iff]
   show ([e.Seal] ++ l.flatMap (·.Seals)).Nodup
   rw [List.singleton_append, List.nodup_cons]
   refine ⟨fun hm => ?_, h.seals⟩
   rw [inS_mem.2 hm] at q3; cases q3
  ·rw [(hflat _).nodup_iff]
   show (e.Candidates ++ l.flatMap (·.Packed)).Nodup
   rw [List.nodup_append]
   refine ⟨srt_nodup hcs, h.packed, fun a ha b hb' hab => ?_⟩
   subst hab
   have := q4 a ha
   rw [inP_mem.2 hb'] at this; cases this
 ·obtain ⟨o1, o2, o3⟩ := errO_zero ho
  unfold stepL
  simp only [h1, if_false, hp, List.getElem?_eq_getElem hk]
  have hmk : l[k] ∈ l := List.getElem_mem hk
  have hmem : ∀ b, b ∈ l.set k (newB l[k] e) → b ∈ l ∨ b = newB l[k] e := fun b hb' => List.mem_or_eq_of_mem_set hb'
  unfold stO at o1
  simp only [Bool.or_eq_false_iff, Bool.and_eq_false_iff, bne_eq_false_iff_eq, beq_eq_false_iff_ne] at o1
  obtain ⟨u1, u2, u3, u4⟩ := o1
  have hkinds := kinds hb
  have hR := h.r _ hmk
  have hS := h.s _ hmk
  have hT := h.t _ hmk
  unfold okR at hR
  unfold okS at hS
  unfold okT at hT
  simp only [u1, Bool.false_eq_true, if_false, decide_eq_true_eq] at hT
  simp only [Bool.and_eq_true, decide_eq_true_eq] at hR hS
  refine ⟨by simpa using h.len, fun b hb' => ?_, fun b hb' => ?_, fun b hb' => ?_, sort_set h.sort hk newB_bag, ?_, ?_⟩
  ·rcases hmem b hb' with h' | rfl
   ·exact h.r b h'
   ·unfold newB okR
    rcases hkinds with hk' | hk' | hk' | hk'
    ·exact absurd hk' h1
    ·simp only [hk', if_true, Bool.and_eq_true, decide_eq_true_eq]
     exact ⟨hR.1, p4 hk', hR.2.2⟩
    ·simp only [hk', show ¬ ((3 : Int) = 2) by omega, if_false, if_true, Bool.and_eq_true, decide_eq_true_eq]
     exact hR
    ·simp only [hk', show ¬ ((4 : Int) = 2) by omega, show ¬ ((4 : Int) = 3) by omega, if_false, Bool.and_eq_true, decide_eq_true_eq]
     refine ⟨hR.1, hR.2.1, by simp, by have := (o2 hk').2; simp; omega, ?_⟩
     rw [List.all_append, Bool.and_eq_true]
     exact ⟨hR.2.2.2.2, by simp [p2]⟩
  ·rcases hmem b hb' with h' | rfl
   ·exact h.s b h'
   ·unfold newB okS
    rcases hkinds with hk' | hk' | hk' | hk'
    ·exact absurd hk' h1
    ·simp only [hk', if_true, Bool.and_eq_true]; exact hS
    ·simp only [hk', show ¬ ((3 : Int) = 2) by omega, if_false, if_true, Bool.and_eq_true]
     exact ⟨hS.1, p5 (.inr hk')⟩
    ·simp only [hk', show ¬ ((4 : Int) = 2) by omega, show ¬ ((4 : Int) = 3) by omega, if_false, Bool.and_eq_true]; exact hS
  ·rcases hmem b hb' with h' | rfl
   ·exact h.t b h'
   ·unfold newB okT
    rcases hkinds with hk' | hk' | hk' | hk'
    ·exact absurd hk' h1
    ·simp [hk', u1, hT]
    ·have hf0 : e.From = 0 := by
      rcases u4 with h | h
      ·exact absurd hk' h
      ·exact h
     simp [hk', u2, hf0]
    ·simp [hk', u1, hT]
  ·obtain ⟨a, c, e1, e2⟩ := flat_set_perm hk (b := newB l[k] e) (·.Seals)
   have hse := h.seals
   rw [e1] at hse
   rw [e2]
   rcases hkinds with hk' | hk' | hk' | hk'
   ·exact absurd hk' h1
   ·simpa [newB, hk'] using hse
   ·simpa [newB, hk'] using hse
   ·have hns : e.Seal ∉ l.flatMap (·.Seals) := fun hm => by
     have := (o2 hk').1
     rw [inS_mem.2 hm] at this; cases this
    rw [e1] at hns
    have en : (newB l[k] e).Seals = l[k].Seals ++ [e.Seal] := by simp [newB, hk']
    show (a ++ (newB l[k] e).Seals ++ c).Nodup
    rw [en]
    have hperm : (a ++ (l[k].Seals ++ [e.Seal]) ++ c).Perm (e.Seal :: (a ++ l[k].Seals ++ c)) := by
     have : a ++ (l[k].Seals ++ [e.Seal]) ++ c = (a ++ l[k].Seals) ++ e.Seal :: c := by simp
     rw [this]
     exact List.perm_middle
    rw [hperm.nodup_iff, List.nodup_cons]
    exact ⟨hns, hse⟩
  ·obtain ⟨a, c, e1, e2⟩ := flat_set_perm hk (b := newB l[k] e) (·.Packed)
   have hse := h.packed
   rw [e1] at hse
   rw [e2]
   have en : (newB l[k] e).Packed = l[k].Packed := newB_packed
   show (a ++ (newB l[k] e).Packed ++ c).Nodup
   rw [en]; exact hse
def idOf (e : Gq0) : Gq1 := ⟨e.Stamp.Source, e.Stamp.Seq⟩
def foldB : List Gq0 → List GBag → List Gq2 → List GBag × List Gq2
 | [], l, r => (l, r)
 | e :: s, l, r => if stepE l e ≠ 0 then foldB s l (r ++ [⟨idOf e, stepE l e⟩]) else foldB s (stepL l e) r
def upTo (u : Int) (l : List Gq0) : List Gq0 := l.takeWhile fun e => decide (e.Stamp.Time ≤ u)
def foldC (ev : List Gq0) (u : Int) : List GBag × List Gq2 × Int :=
 let c := canonEv (·.Stamp) ev
 if c.2 ≠ 0 then ([], [], c.2) else ((foldB (upTo u c.1) [] []).1, (foldB (upTo u c.1) [] []).2, 0)
theorem fold_loop {F : Nat} {u : Int} {c : List Gq0} {z : Int} (hF : 400 < F) (hc : Short F c) (hb : c.length < 1000000) : ∀ (s p : List Gq0) (n : Nat) (l : List GBag) (r : List Gq2), c = p ++ s → s.length < n → Val l → r.length ≤ p.length → q86q F u (c, z) n l (p.length : Int) r = some ((foldB (upTo u s) l r).1, (foldB (upTo u s) l r).2, 0) := by
 intro s
 induction s with
 | nil => intro p n l r hp hn hv hr; cases n with
  | zero => omega
  | succ n =>
   have : c = p := by simpa using hp
   subst this
   simp only [q86q, q135q, Int.lt_irrefl, decide_false, Bool.false_eq_true, if_false, upTo, List.takeWhile_nil, foldB]
 | cons e s ih => intro p n l r hp hn hv hr; cases n with
  | zero => omega
  | succ n =>
   have hlen : p.length < 1000000 := by rw [hp] at hb; simp at hb; omega
   have d1 : decide ((p.length : Int) < (c.length : Int)) = true := by rw [hp]; exact dlt p e s
   have i1 : idx c (p.length : Int) = some e := by rw [hp]; exact idx_at p e s
   have hce := hc e (by rw [hp]; simp)
   simp only [q86q, q135q, d1, if_true, i1, Option.bind_some]
   by_cases hu : e.Stamp.Time ≤ u
   ·have d2 : decide (e.Stamp.Time > u) = false := by simp; omega
    have hw : upTo u (e :: s) = e :: upTo u s := by unfold upTo; rw [List.takeWhile_cons_of_pos (by simpa using hu)]
    simp only [d2, Bool.false_eq_true, if_false, step_s (hv.ok hF) (by omega) hce, Option.bind_some, hw, foldB]
    unfold stepC
    by_cases h0 : stepE l e = 0
    ·simp only [h0, ne_eq, not_true_eq_false, if_false, bne_self_eq_false, Bool.false_eq_true]
     rw [nxt p e (by omega)]
     exact ih (p ++ [e]) n _ r (by rw [hp]; simp) (by simpa using hn) (step_val hv h0) (by simp; omega)
    ·have hb0 : (stepE l e != 0) = true := by simp [h0]
     simp only [h0, ne_eq, not_false_eq_true, if_true, hb0]
     rw [app_of (by simp; omega), Option.bind_some, nxt p e (by omega)]
     exact ih (p ++ [e]) n l _ (by rw [hp]; simp) (by simpa using hn) hv (by simp; omega)
   ·have d2 : decide (e.Stamp.Time > u) = true := by simp; omega
    have hw : upTo u (e :: s) = [] := by unfold upTo; rw [List.takeWhile_cons_of_neg (by simpa using hu)]
    simp [d2, hw, foldB]
theorem canonEv_mem {E : Type} [DecidableEq E] {st : E → Gq3} {l : List E} {e : E} (h : e ∈ (canonEv st l).1) : e ∈ l := by
 unfold canonEv at h
 split at h
 ·simp at h
 ·unfold evL pickL at h
  rw [List.mem_filterMap] at h
  obtain ⟨i, _, hi⟩ := h
  exact List.mem_of_getElem? hi
theorem canonEv_le {E : Type} [DecidableEq E] (st : E → Gq3) (l : List E) : (canonEv st l).1.length ≤ l.length := by
 unfold canonEv
 split
 ·simp
 ·exact evL_le st l
theorem fold_s {F : Nat} (hF : 400 < F) {ev : List Gq0} {u : Int} (hc : Short F ev) (hb : ev.length < 1000000) (hFe : ev.length < F) : q180q F ev u = some (foldC ev u) := by
 unfold q180q foldC
 rw [canonicalP_s (by omega) hc hb hFe]
 simp only [Option.bind_some]
 have hle := canonEv_le (fun x : Gq0 => x.Stamp) ev
 have hmem : Short F (canonEv (fun x : Gq0 => x.Stamp) ev).1 := fun e he => hc e (canonEv_mem he)
 generalize canonEv (fun x : Gq0 => x.Stamp) ev = c at hle hmem
 by_cases h0 : c.2 = 0
 ·simp only [h0, bne_self_eq_false, Bool.false_eq_true, if_false, ne_eq, not_true_eq_false]
  have := fold_loop (u := u) (z := c.2) hF hmem (by omega) c.1 [] F [] [] rfl (by omega) val_nil (by simp)
  exact this
 ·have : (c.2 != 0) = true := by simp [h0]
  simp [this, h0]
theorem foldB_val : ∀ {s : List Gq0} {l : List GBag} {r : List Gq2}, Val l → Val (foldB s l r).1
 | [], l, r, h => h
 | e :: s, l, r, h => by
  simp only [foldB]
  split
  ·exact foldB_val h
  ·rename_i h0; exact foldB_val (step_val h (by simpa using h0))
theorem foldC_val {ev : List Gq0} {u : Int} : Val (foldC ev u).1 := by
 unfold foldC
 simp only
 split
 ·exact val_nil
 ·exact foldB_val val_nil
end Go.Sh
set_option linter.unusedVariables false
set_option linter.unusedSimpArgs false
namespace Go.Sh
open Go.L

def MS (m : List (Int × Bool)) (f : Int → Bool) : Prop := ∀ x, (mget m x).getD false = f x
theorem MS.put {m : List (Int × Bool)} {f : Int → Bool} (h : MS m f) (a : Int) : MS (mput m a true) (fun x => f x || decide (x = a)) := fun x => by
 rw [mget_mput]
 by_cases hx : x = a
 ·simp [hx]
 ·simp [hx, h x]
theorem MS.congr {m : List (Int × Bool)} {f g : Int → Bool} (h : MS m f) (hg : ∀ x, f x = g x) : MS m g := fun x => by rw [h x, hg x]
theorem ms_nil : MS [] (fun _ => false) := fun x => by simp [mget]
def whereC (l : List GBag) (c : Int) : Int := if (l.any fun b => decide (c ∈ b.Found)) = true then 2 else if (l.any fun b => b.Open && decide (c ∈ b.Packed)) = true then 3 else if inP l c = true then 1 else 0
def accC (l : List GBag) (xs : List Int) : List Int × List Int × List Int × List Int := (xs.filter fun c => whereC l c == 0, xs.filter fun c => whereC l c == 1, xs.filter fun c => whereC l c == 2, xs.filter fun c => whereC l c == 3)
section
variable {rec1 : Int → List (Int × Bool) → List (Int × Bool) → List (Int × Bool) → Option (List Int × List Int × List Int × List Int)} {n1 : Int} {b : GBag}
theorem acc3 {m8 m9 : List (Int × Bool)} (hb : b.Found.length < 1000000000) : ∀ (s p : List Int) (n : Nat) (m : List (Int × Bool)) (f : Int → Bool), b.Found = p ++ s → s.length < n → MS m f → ∃ m', MS m' (fun x => f x || decide (x ∈ s)) ∧ q35q rec1 n1 b m8 m9 n (p.length : Int) m = rec1 (i64 (n1 + 1)) m8 m9 m' := by
 intro s
 induction s with
 | nil => intro p n m f hp hn hm; cases n with
  | zero => omega
  | succ n =>
   have : b.Found = p := by simpa using hp
   refine ⟨m, hm.congr (fun x => by simp), ?_⟩
   simp only [q35q, q83q, this, Int.lt_irrefl, decide_false, Bool.false_eq_true, if_false]
 | cons x s ih => intro p n m f hp hn hm; cases n with
  | zero => omega
  | succ n =>
   have hl : p.length < 1000000000 := by rw [hp] at hb; simp at hb; omega
   have d1 : decide ((p.length : Int) < (b.Found.length : Int)) = true := by rw [hp]; exact dlt p x s
   have i1 : idx b.Found (p.length : Int) = some x := by rw [hp]; exact idx_at p x s
   obtain ⟨m', h1, h2⟩ := ih (p ++ [x]) n (mput m x true) _ (by rw [hp]; simp) (by simpa using hn) (hm.put x)
   refine ⟨m', h1.congr (fun y => by simp [Bool.or_assoc, List.mem_cons, Bool.decide_or]), ?_⟩
   simp only [q35q, q83q, d1, if_true, i1, Option.bind_some]
   rw [nxt p x hl, h2]
theorem acc2 {F : Nat} {m4 : List (Int × Bool)} (hb : b.Packed.length < 1000000000) : ∀ (s p : List Int) (n : Nat) (m8 m9 : List (Int × Bool)) (f g : Int → Bool), b.Packed = p ++ s → s.length < n → MS m8 f → MS m9 g → ∃ m8' m9', MS m8' (fun x => f x || decide (x ∈ s)) ∧ MS m9' (fun x => g x || (b.Open && decide (x ∈ s))) ∧ q34q rec1 F n1 m4 b n (p.length : Int) m8 m9 = q35q rec1 n1 b m8' m9' F 0 m4 := by
 intro s
 induction s with
 | nil => intro p n m8 m9 f g hp hn hm hg; cases n with
  | zero => omega
  | succ n =>
   have : b.Packed = p := by simpa using hp
   refine ⟨m8, m9, hm.congr (fun x => by simp), hg.congr (fun x => by simp), ?_⟩
   simp only [q34q, q59q, this, Int.lt_irrefl, decide_false, Bool.false_eq_true, if_false]
 | cons x s ih => intro p n m8 m9 f g hp hn hm hg; cases n with
  | zero => omega
  | succ n =>
   have hl : p.length < 1000000000 := by rw [hp] at hb; simp at hb; omega
   have d1 : decide ((p.length : Int) < (b.Packed.length : Int)) = true := by rw [hp]; exact dlt p x s
   have i1 : idx b.Packed (p.length : Int) = some x := by rw [hp]; exact idx_at p x s
   cases ho : b.Open with
   | true =>
    obtain ⟨m8', m9', h1, h2, h3⟩ := ih (p ++ [x]) n (mput m8 x true) (mput m9 x true) _ _ (by rw [hp]; simp) (by simpa using hn) (hm.put x) (hg.put x)
    refine ⟨m8', m9', h1.congr (fun y => by simp [Bool.or_assoc, List.mem_cons, Bool.decide_or]), h2.congr (fun y => by simp [ho, Bool.or_assoc, List.mem_cons, Bool.decide_or]), ?_⟩
    simp only [q34q, q59q, d1, if_true, i1, Option.bind_some, ho]
    rw [nxt p x hl, h3]
   | false =>
    obtain ⟨m8', m9', h1, h2, h3⟩ := ih (p ++ [x]) n (mput m8 x true) m9 _ _ (by rw [hp]; simp) (by simpa using hn) (hm.put x) hg
    refine ⟨m8', m9', h1.congr (fun y => by simp [Bool.or_assoc, List.mem_cons, Bool.decide_or]), h2.congr (fun y => by simp [ho]), ?_⟩
    simp only [q34q, q59q, d1, if_true, i1, Option.bind_some, ho, Bool.false_eq_true, if_false]
    rw [nxt p x hl, h3]
end
structure AShort (F : Nat) (l : List GBag) : Prop where
 len : l.length < 1000000
 lenF : l.length < F
 pk : ∀ b ∈ l, b.Packed.length < 1000000000 ∧ b.Packed.length < F
 fd : ∀ b ∈ l, b.Found.length < 1000000000 ∧ b.Found.length < F
theorem BShort.acc {F : Nat} {l : List GBag} (h : BShort F l) : AShort F l := ⟨h.len, h.lenF, fun b hb => ⟨by have := (h.pk b hb).1; omega, (h.pk b hb).2⟩, fun b hb => ⟨by have := (h.fd b hb).1; omega, (h.fd b hb).2⟩⟩
theorem acc1 {F : Nat} {l : List GBag} {xs : List Int} (h : AShort F l) : ∀ (s p : List GBag) (n : Nat) (m2 m3 m4 : List (Int × Bool)) (f g k : Int → Bool), l = p ++ s → s.length < n → MS m2 f → MS m3 g → MS m4 k →
  ∃ m2' m3' m4', MS m2' (fun x => f x || inP s x) ∧ MS m3' (fun x => g x || s.any fun b => b.Open && decide (x ∈ b.Packed)) ∧ MS m4' (fun x => k x || s.any fun b => decide (x ∈ b.Found)) ∧ q8q F l xs n (p.length : Int) m2 m3 m4 = q40q xs m2' m3' m4' F 0 [] [] [] [] := by
 intro s
 induction s with
 | nil => intro p n m2 m3 m4 f g k hp hn h2 h3 h4; cases n with
  | zero => omega
  | succ n =>
   have : l = p := by simpa using hp
   subst this
   refine ⟨m2, m3, m4, h2.congr (fun x => by simp [inP]), h3.congr (fun x => by simp), h4.congr (fun x => by simp), ?_⟩
   simp only [q8q, q82q, Int.lt_irrefl, decide_false, Bool.false_eq_true, if_false]
 | cons b s ih => intro p n m2 m3 m4 f g k hp hn h2 h3 h4; cases n with
  | zero => omega
  | succ n =>
   have hlen : p.length < 1000000 := by have hb := h.len; rw [hp] at hb; simp at hb; omega
   have d1 : decide ((p.length : Int) < (l.length : Int)) = true := by rw [hp]; exact dlt p b s
   have i1 : idx l (p.length : Int) = some b := by rw [hp]; exact idx_at p b s
   have hm : b ∈ l := by rw [hp]; simp
   obtain ⟨m8, m9, a1, a2, a3⟩ := acc2 (rec1 := q8q F l xs n) (n1 := (p.length : Int)) (F := F) (m4 := m4) (h.pk b hm).1 b.Packed [] F m2 m3 f g rfl (h.pk b hm).2 h2 h3
   obtain ⟨m14, c1, c2⟩ := acc3 (rec1 := q8q F l xs n) (n1 := (p.length : Int)) (m8 := m8) (m9 := m9) (h.fd b hm).1 b.Found [] F m4 k rfl (h.fd b hm).2 h4
   obtain ⟨m2', m3', m4', e1, e2, e3, e4⟩ := ih (p ++ [b]) n m8 m9 m14 _ _ _ (by rw [hp]; simp) (by simpa using hn) a1 a2 c1
   refine ⟨m2', m3', m4', e1.congr (fun x => by simp [inP, Bool.or_assoc]), e2.congr (fun x => by simp [Bool.or_assoc]), e3.congr (fun x => by simp [Bool.or_assoc]), ?_⟩
   simp only [q8q, q82q, d1, if_true, i1, Option.bind_some]
   have a3' : q34q (q8q F l xs n) F (p.length : Int) m4 b F 0 m2 m3 = _ := a3
   have c2' : q35q (q8q F l xs n) (p.length : Int) b m8 m9 F 0 m4 = _ := c2
   rw [a3', c2', nxt p b (by omega), e4]
theorem acc4 {l : List GBag} {xs : List Int} {m2 m3 m4 : List (Int × Bool)} (hb : xs.length < 1000000) (h2 : MS m2 (inP l)) (h3 : MS m3 (fun x => l.any fun b => b.Open && decide (x ∈ b.Packed))) (h4 : MS m4 (fun x => l.any fun b => decide (x ∈ b.Found))) :
  ∀ (s p : List Int) (n : Nat), xs = p ++ s → s.length < n → q40q xs m2 m3 m4 n (p.length : Int) (accC l p).1 (accC l p).2.2.1 (accC l p).2.2.2 (accC l p).2.1 = some (accC l xs) := by
 intro s
 induction s with
 | nil => intro p n hp hn; cases n with
  | zero => omega
  | succ n =>
   have : xs = p := by simpa using hp
   subst this
   simp only [q40q, q84q, Int.lt_irrefl, decide_false, Bool.false_eq_true, if_false]
 | cons x s ih => intro p n hp hn; cases n with
  | zero => omega
  | succ n =>
   have hlen : p.length < 1000000 := by rw [hp] at hb; simp at hb; omega
   have d1 : decide ((p.length : Int) < (xs.length : Int)) = true := by rw [hp]; exact dlt p x s
   have i1 : idx xs (p.length : Int) = some x := by rw [hp]; exact idx_at p x s
   have hrec := ih (p ++ [x]) n (by rw [hp]; simp) (by simpa using hn)
   have happ : ∀ q : Int → Bool, app (p.filter q) [x] = some (p.filter q ++ [x]) := fun q => app_of (by have := List.length_filter_le q p; simp; omega)
   simp only [q40q, q84q, d1, if_true, i1, Option.bind_some, h2 x, h3 x, h4 x]
   rw [nxt p x (by omega)]
   simp only [accC, List.filter_append, List.filter_cons, List.filter_nil] at hrec ⊢
   by_cases c1 : (l.any fun b => decide (x ∈ b.Found)) = true
   ·have hw : whereC l x = 2 := by unfold whereC; rw [if_pos c1]
    rw [hw] at hrec
    simp only [c1, if_true, happ, Option.bind_some]
    simpa using hrec
   ·by_cases c2 : (l.any fun b => b.Open && decide (x ∈ b.Packed)) = true
    ·have hw : whereC l x = 3 := by unfold whereC; rw [if_neg c1, if_pos c2]
     rw [hw] at hrec
     simp only [c1, c2, if_true, if_false, happ, Option.bind_some]
     simpa using hrec
    ·by_cases c3 : inP l x = true
     ·have hw : whereC l x = 1 := by unfold whereC; rw [if_neg c1, if_neg c2, if_pos c3]
      rw [hw] at hrec
      simp only [c1, c2, c3, if_true, if_false, happ, Option.bind_some]
      simpa using hrec
     ·have hw : whereC l x = 0 := by unfold whereC; rw [if_neg c1, if_neg c2, if_neg c3]
      rw [hw] at hrec
      simp only [c1, c2, c3, if_false, happ, Option.bind_some]
      simpa using hrec
theorem account_s {F : Nat} {l : List GBag} {xs : List Int} (h : AShort F l) (hb : xs.length < 1000000) (hF : xs.length < F) : q121q F l xs = some (accC l xs) := by
 unfold q121q
 obtain ⟨m2, m3, m4, e1, e2, e3, e4⟩ := acc1 (xs := xs) h l [] F [] [] [] _ _ _ rfl h.lenF ms_nil ms_nil ms_nil
 have e4' : q8q F l xs F 0 [] [] [] = _ := e4
 rw [e4']
 exact acc4 hb (e1.congr fun x => by simp) (e2.congr fun x => by simp) (e3.congr fun x => by simp) xs [] F rfl hF
theorem awake_s {F : Nat} (hF : 2000 ≤ F) : q191q F = some true := by
 unfold q191q
 rw [fold_s (by omega) (fun e he => by simp at he; rcases he with rfl | rfl | rfl <;> simp <;> omega) (by simp) (by simp; omega)]
 have h1 : foldC [(Gq0.mk (Gq3.mk 3 0 2) 3 1 100 0 0 [2]), (Gq0.mk (Gq3.mk 1 7 0) 1 1 100 7 0 [1, 2]), (Gq0.mk (Gq3.mk 2 7 1) 2 1 100 7 0 [])] 9 = ([GBag.mk 1 0 true [100] [1, 2] [2]], [], 0) := by decide +kernel
 rw [h1]
 simp only [Option.bind_some]
 rw [account_s ⟨by simp, by simp; omega, by simp; omega, by simp; omega⟩ (by simp) (by simp; omega)]
 have h2 : accC [GBag.mk 1 0 true [100] [1, 2] [2]] [1, 2, 3] = ([3], [], [2], [1]) := by decide +kernel
 rw [h2]
 simp only [Option.bind_some]
 rw [ints_s (by simp) (by simp; omega), ints_s (by simp) (by simp; omega), ints_s (by simp) (by simp; omega)]
 simp [idx]
theorem loop6 {α β γ δ ε ζ R : Type} {L : Nat → α → β → γ → δ → ε → ζ → Option R} {B : (α → β → γ → δ → ε → ζ → Option R) → α → β → γ → δ → ε → ζ → Option R} (hL : ∀ n, L (n + 1) = B (L n)) (I : α → β → γ → δ → ε → ζ → Prop) (μ : α → β → γ → δ → ε → ζ → Nat) (Post : R → Prop)
  (hB : ∀ rec a b c d e f, I a b c d e f → (∀ a' b' c' d' e' f', I a' b' c' d' e' f' → μ a' b' c' d' e' f' < μ a b c d e f → ∃ r, rec a' b' c' d' e' f' = some r ∧ Post r) → ∃ r, B rec a b c d e f = some r ∧ Post r) :
  ∀ n a b c d e f, I a b c d e f → μ a b c d e f < n → ∃ r, L n a b c d e f = some r ∧ Post r := by
 intro n
 induction n with
 | zero => intro a b c d e f _ h; omega
 | succ n ih =>
  intro a b c d e f hI hlt
  rw [hL]
  exact hB (L n) a b c d e f hI fun a' b' c' d' e' f' hI' hlt' => ih a' b' c' d' e' f' hI' (by omega)
theorem tsorted_s {F : Nat} {t : GTape} (h : Tp t) (m : Nat) (hm : m ≤ 15) (hF : m < F) : ∃ l t', Gq27 F t m = some (l, t') ∧ Tp t' ∧ l.length ≤ m := by
 have key : ∀ n (k : Int) (L : List Int) (A : Int) (l : List Int), (0 ≤ k ∧ k ≤ m ∧ (l.length : Int) ≤ k ∧ Tp (GTape.mk L A)) → (m - k).toNat < n → ∃ r, Gq28 m n k L A l = some r ∧ (Tp r.2 ∧ r.1.length ≤ m) := by
  refine loop4 (L := Gq28 m) (B := Gq29 m) (fun _ => rfl) _ (fun (k : Int) (_ : List Int) (_ : Int) (_ : List Int) => (m - k).toNat) _ ?_
  rintro rec k L A l ⟨hk, hk5, hl, ht⟩ hrec
  unfold Gq29
  by_cases hk0 : k < m
  ·obtain ⟨a, t1, a1, a2, _⟩ := next_s ht 2 (by omega)
   have hki : i64 (k + 1) = k + 1 := i64_of (by omega) (by omega)
   simp only [hk0, decide_true, if_true, a1, Option.bind_some, hki]
   by_cases ha : a = 1
   ·simp only [ha, beq_self_eq_true, if_true]
    rw [app_of (by simp; omega)]
    simp only [Option.bind_some]
    exact hrec _ _ _ _ ⟨by omega, by omega, by simp; omega, a2⟩ (by omega)
   ·have : (a == 1) = false := by simp [ha]
    simp only [this, Bool.false_eq_true, if_false]
    exact hrec _ _ _ _ ⟨by omega, by omega, by omega, a2⟩ (by omega)
  ·simp only [hk0, decide_false, Bool.false_eq_true, if_false]
   exact ⟨_, rfl, ht, by simp only; omega⟩
 obtain ⟨⟨l, t'⟩, h1, h2, h3⟩ := key F 0 t.L t.At [] ⟨by omega, by omega, by simp, tp_mk h⟩ (by omega)
 exact ⟨l, t', by simp only [Gq27]; exact h1, h2, h3⟩
section
variable {rec1 : Int → List Int → Int → List Int → List Int → List Gq0 → Option (List Gq0 × GTape)} {n2 : Int} {l7 : List Gq0} {Post : List Gq0 × GTape → Prop} {l21 l22 : List Int}
def Cand (l : List Gq0) : Prop := ∀ e ∈ l, e.Candidates.length ≤ 20
theorem evJ4 (hl : l7.length ≤ 1000) (hc : Cand l7) (h : ∀ v t', Tp t' → v.length ≤ l7.length + 2 → Cand v → ∃ r, rec1 (i64 (n2 - 1)) t'.L t'.At l21 l22 v = some r ∧ Post r) {a b c d e f g i : Int} {cs L : List Int} {A : Int} (hcs : cs.length ≤ 20) (ht : Tp (GTape.mk L A)) :
  ∃ r, Gq7 rec1 n2 l7 l21 l22 a b c d e f g i cs L A = some r ∧ Post r := by
 unfold Gq7
 rw [app_of (by simp; omega)]
 simp only [Option.bind_some]
 have hc' : Cand (l7 ++ [Gq0.mk (Gq3.mk a b c) d e f g i cs]) := fun x hx => by
  rcases List.mem_append.1 hx with hx | hx
  ·exact hc x hx
  ·simp at hx; subst hx; exact hcs
 obtain ⟨x, t1, h1, h2⟩ := one_s ht 8 (by omega)
 simp only [h1, Option.bind_some]
 cases x with
 | false => exact h _ t1 h2 (by simp) hc'
 | true =>
  simp only [if_true]
  obtain ⟨y, t2, h3, h4, h5, h6, _⟩ := next_s h2 ((l7 ++ [Gq0.mk (Gq3.mk a b c) d e f g i cs]).length : Int) (by simp; omega)
  have hy := h6 (by simp; omega)
  rw [h3]
  simp only [Option.bind_some]
  have hix : idx (l7 ++ [Gq0.mk (Gq3.mk a b c) d e f g i cs]) y = some (l7 ++ [Gq0.mk (Gq3.mk a b c) d e f g i cs])[y.toNat] := by
   rw [idx_some]; exact ⟨h5, by simp⟩
  rw [hix]
  simp only [Option.bind_some]
  rw [app_of (by simp; omega)]
  simp only [Option.bind_some]
  refine h _ t2 h4 (by simp) (fun z hz => ?_)
  rcases List.mem_append.1 hz with hz | hz
  ·exact hc' z hz
  ·simp only [List.mem_singleton] at hz; subst hz; exact hc' _ (List.getElem_mem _)
theorem evJ3 {p2 : Int} (hp2 : p2 ≤ 1000000) {r9 : Int × GTape} (hl : l7.length ≤ 1000) (hc : Cand l7) (h : ∀ v t', Tp t' → v.length ≤ l7.length + 2 → Cand v → ∃ r, rec1 (i64 (n2 - 1)) t'.L t'.At l21 l22 v = some r ∧ Post r) {L : List Int} {A a b c d e : Int} {cs : List Int} (hcs : cs.length ≤ 19) (ht : Tp (GTape.mk L A)) :
  ∃ r, Gq6 rec1 p2 n2 l7 r9 L A a b c d l21 l22 cs e = some r ∧ Post r := by
 unfold Gq6
 have key : ∃ (b : Bool) (L' : List Int) (A' : Int), (if (decide (p2 > 0)) = true then (Gq19 (GTape.mk L A) p2).bind fun r47 => some (r47.1, r47.2.L, r47.2.At) else some (false, L, A)) = some (b, L', A') ∧ Tp (GTape.mk L' A') := by
  by_cases hp0 : p2 > 0
  ·obtain ⟨x, t1, h1, h2⟩ := one_s ht p2 (by omega)
   exact ⟨x, t1.L, t1.At, by simp only [hp0, decide_true, if_true, h1, Option.bind_some], h2⟩
  ·exact ⟨false, L, A, by simp [hp0], ht⟩
 obtain ⟨q, L', A', h1, h2⟩ := key
 rw [h1]
 simp only [Option.bind_some]
 cases q with
 | false => exact evJ4 hl hc h (by omega) h2
 | true =>
  simp only [if_true]
  obtain ⟨y, t6, h3, h4, _⟩ := next_s h2 7 (by omega)
  simp only [h3, Option.bind_some]
  by_cases y0 : y = 0
  ·obtain ⟨z, t7, h5, h6, _⟩ := range_s h4 (-1) 6 (by omega) (by omega) (by omega)
   simp only [y0, beq_self_eq_true, if_true, h5, Option.bind_some]
   exact evJ4 hl hc h (by omega) (tp_mk h6)
  ·have b0 : (y == 0) = false := by simp [y0]
   simp only [b0, Bool.false_eq_true, if_false]
   by_cases y1 : y = 1
   ·obtain ⟨z, t7, h5, h6, _⟩ := pick_s h4 [(-1), 0, 3, 9999, 10000] (by simp) (by simp)
    simp only [y1, beq_self_eq_true, if_true, h5, Option.bind_some]
    exact evJ4 hl hc h (by omega) (tp_mk h6)
   ·have b1 : (y == 1) = false := by simp [y1]
    simp only [b1, Bool.false_eq_true, if_false]
    by_cases y2 : y = 2
    ·obtain ⟨z, t7, h5, h6, _⟩ := pick_s h4 [(-1), 0, 10, 1000000, 1000001] (by simp) (by simp)
     simp only [y2, beq_self_eq_true, if_true, h5, Option.bind_some]
     exact evJ4 hl hc h (by omega) (tp_mk h6)
    ·have b2 : (y == 2) = false := by simp [y2]
     simp only [b2, Bool.false_eq_true, if_false]
     by_cases y3 : y = 3
     ·obtain ⟨z, t7, h5, h6, _⟩ := pick_s h4 [(-1), 0, 1, 99, 100] (by simp) (by simp)
      simp only [y3, beq_self_eq_true, if_true, h5, Option.bind_some]
      exact evJ4 hl hc h (by omega) (tp_mk h6)
     ·have b3 : (y == 3) = false := by simp [y3]
      simp only [b3, Bool.false_eq_true, if_false]
      by_cases y4 : y = 4
      ·obtain ⟨z, t7, h5, h6, _⟩ := pick_s h4 [(-1), 0, 1, 99, 100] (by simp) (by simp)
       simp only [y4, beq_self_eq_true, if_true, h5, Option.bind_some]
       exact evJ4 hl hc h (by omega) (tp_mk h6)
      ·have b4 : (y == 4) = false := by simp [y4]
       simp only [b4, Bool.false_eq_true, if_false]
       by_cases y5 : y = 5
       ·obtain ⟨z, t7, h5, h6, _⟩ := pick_s h4 [0, 9999, 10000, (-1)] (by simp) (by simp)
        simp only [y5, beq_self_eq_true, if_true, h5, Option.bind_some]
        rw [app_of (by simp; omega)]
        simp only [Option.bind_some]
        exact evJ4 hl hc h (by simp; omega) (tp_mk h6)
       ·have b5 : (y == 5) = false := by simp [y5]
        simp only [b5, Bool.false_eq_true, if_false]
        obtain ⟨z, t7, h5, h6⟩ := tstamp_s h4 4 (by omega)
        simp only [h5, Option.bind_some]
        exact evJ4 hl hc h (by omega) (tp_mk h6)
theorem evJ2 {p2 : Int} (hp2 : p2 ≤ 1000000) {r9 r10 : Int × GTape} (hl : l7.length ≤ 1000) (hc : Cand l7) (h : ∀ v t', Tp t' → v.length ≤ l7.length + 2 → Cand v → ∃ r, rec1 (i64 (n2 - 1)) t'.L t'.At l21 l22 v = some r ∧ Post r) {L : List Int} {A a b c d : Int} {cs : List Int} (hcs : cs.length ≤ 19) (ht : Tp (GTape.mk L A)) :
  ∃ r, Gq5 rec1 p2 n2 l7 r9 r10 L A a b c d l21 l22 cs = some r ∧ Post r := by
 unfold Gq5
 split
 ·exact evJ3 hp2 hl hc h hcs ht
 ·exact evJ3 hp2 hl hc h hcs ht
end
theorem bagEvents_s {F : Nat} {t : GTape} (h : Tp t) (most : Nat) (p : Int) (hp : p ≤ 1000000) (hm : most ≤ 100) (hF : most < F) (hF2 : 20 < F) : ∃ l t', Gq4 F t most p = some (l, t') ∧ Tp t' ∧ l.length ≤ 2 * most ∧ Cand l := by
 have key : ∀ n (k : Int) (L : List Int) (A : Int) (l5 l6 : List Int) (l : List Gq0), (0 ≤ k ∧ (l.length : Int) + 2 * k ≤ 2 * most ∧ Tp (GTape.mk L A) ∧ l5.length = 3 ∧ l6.length = 3 ∧ Cand l) → k.toNat < n → ∃ r, Gq8 F p n k L A l5 l6 l = some r ∧ (Tp r.2 ∧ r.1.length ≤ 2 * most ∧ Cand r.1) := by
  refine loop6 (L := Gq8 F p) (B := Gq9 F p) (fun _ => rfl) _ (fun (k : Int) (_ : List Int) (_ : Int) (_ _ : List Int) (_ : List Gq0) => k.toNat) _ ?_
  rintro rec k L A l5 l6 l ⟨hk, hl, ht, h5, h6, hc⟩ hrec
  unfold Gq9
  by_cases hk0 : k > 0
  ·have hgo : ∀ l21 l22 : List Int, l21.length = 3 → l22.length = 3 → ∀ v t', Tp t' → v.length ≤ l.length + 2 → Cand v → ∃ r, rec (i64 (k - 1)) t'.L t'.At l21 l22 v = some r ∧ (Tp r.2 ∧ r.1.length ≤ 2 * most ∧ Cand r.1) := fun l21 l22 g1 g2 v t' h1 h2 h3 => by
    rw [i64_of (by omega) (by omega)]
    exact hrec _ _ _ _ _ _ ⟨by omega, by omega, h1, g1, g2, h3⟩ (by omega)
   obtain ⟨a, t1, a1, a2, a3, a4, _⟩ := next_s ht 3 (by omega)
   have a5 := a4 (by omega)
   obtain ⟨b, t2, b1, b2, _⟩ := next_s a2 2 (by omega)
   obtain ⟨c, t3, c1, c2, _⟩ := pick_s b2 [2, 2, 3, 4] (by simp) (by simp)
   obtain ⟨d, t4, d1, d2, _⟩ := pick_s c2 [0, 0, 1, 2] (by simp) (by simp)
   have i5 : idx l5 a = some l5[a.toNat] := by rw [idx_some]; exact ⟨a3, by simp⟩
   have i6 : idx l6 a = some l6[a.toNat] := by rw [idx_some]; exact ⟨a3, by simp⟩
   simp only [hk0, decide_true, if_true, a1, b1, c1, d1, i5, i6, Option.bind_some]
   by_cases hh : l5[a.toNat] < 0
   ·obtain ⟨x, t5, e1, e2, _⟩ := range_s d2 1 3 (by omega) (by omega) (by omega)
    obtain ⟨y, t6, f1, f2, _⟩ := next_s e2 4 (by omega)
    simp only [hh, decide_true, if_true, e1, f1, Option.bind_some]
    have key2 : ∀ n (q : Int) (L : List Int) (A : Int) (cs : List Int), (0 ≤ q ∧ q ≤ 9 ∧ (cs.length : Int) ≤ q ∧ Tp (GTape.mk L A)) → (9 - q).toNat < n → ∃ r, Gq10 rec p k l5 l6 l (a, t1) (b, t2) (x, t5) (y, t6) n q L A cs = some r ∧ (Tp r.2 ∧ r.1.length ≤ 2 * most ∧ Cand r.1) := by
     refine loop4 (L := Gq10 rec p k l5 l6 l (a, t1) (b, t2) (x, t5) (y, t6)) (B := Gq11 rec p k l5 l6 l (a, t1) (b, t2) (x, t5) (y, t6)) (fun _ => rfl) _ (fun (q : Int) (_ : List Int) (_ : Int) (_ : List Int) => (9 - q).toNat) _ ?_
     rintro rec5 q L' A' cs ⟨hq, hq9, hcs, ht'⟩ hrec5
     unfold Gq11
     by_cases hq0 : q < 9
     ·obtain ⟨w, w1, w2, _⟩ := cut_s q 3 (by omega)
      have hqi : i64 (q + 1) = q + 1 := i64_of (by omega) (by omega)
      simp only [hq0, decide_true, if_true, w1, Option.bind_some, hqi]
      have key3 : ∃ (z : Bool) (L2 : List Int) (A2 : Int), (if (w == a) = true then (Gq17 (GTape.mk L' A') 3).bind fun r80 => some ((decide (r80.1 > 0)), r80.2.L, r80.2.At) else some (false, L', A')) = some (z, L2, A2) ∧ Tp (GTape.mk L2 A2) := by
       by_cases hw : w = a
       ·obtain ⟨u, t8, u1, u2, _⟩ := next_s ht' 3 (by omega)
        exact ⟨decide (u > 0), t8.L, t8.At, by simp only [hw, beq_self_eq_true, if_true, u1, Option.bind_some], tp_mk u2⟩
       ·have : (w == a) = false := by simp [hw]
        exact ⟨false, L', A', by simp only [this, Bool.false_eq_true, if_false], ht'⟩
      obtain ⟨z, L2, A2, z1, z2⟩ := key3
      rw [z1]
      simp only [Option.bind_some]
      cases z with
      | true =>
       simp only [if_true]
       rw [app_of (by simp; omega)]
       simp only [Option.bind_some]
       exact hrec5 _ _ _ _ ⟨by omega, by omega, by simp; omega, z2⟩ (by omega)
      | false =>
       simp only [Bool.false_eq_true, if_false]
       exact hrec5 _ _ _ _ ⟨by omega, by omega, by omega, z2⟩ (by omega)
     ·simp only [hq0, decide_false, Bool.false_eq_true, if_false, i5, i6, Option.bind_some]
      exact evJ2 hp (by omega) hc (hgo _ _ (by simpa using h5) (by simpa using h6)) (by omega) ht'
    exact key2 F 0 t6.L t6.At [] ⟨by omega, by omega, by simp, f2⟩ (by omega)
   ·simp only [hh, decide_false, Bool.false_eq_true, if_false]
    by_cases k2 : c = 2
    ·simp only [k2, beq_self_eq_true, if_true]
     exact evJ2 hp (by omega) hc (hgo _ _ (by simpa using h5) h6) (by simp) (tp_mk d2)
    ·have b2' : (c == 2) = false := by simp [k2]
     simp only [b2', Bool.false_eq_true, if_false]
     by_cases k4 : c = 4
     ·obtain ⟨x, t5, e1, e2, _⟩ := next_s d2 40 (by omega)
      simp only [k4, beq_self_eq_true, if_true, e1, i6, Option.bind_some]
      exact evJ2 hp (by omega) hc (hgo _ _ h5 (by simpa using h6)) (by simp) (tp_mk e2)
     ·have b4' : (c == 4) = false := by simp [k4]
      simp only [b4', Bool.false_eq_true, if_false]
      by_cases k3 : c = 3
      ·obtain ⟨x, t5, e1, e2, e3⟩ := tsorted_s (F := F) d2 9 (by omega) (by omega)
       have e1' : Gq27 F t4 9 = some (x, t5) := e1
       simp only [k3, beq_self_eq_true, if_true, e1', Option.bind_some]
       exact evJ2 hp (by omega) hc (hgo _ _ h5 h6) (by omega) (tp_mk e2)
      ·have b3' : (c == 3) = false := by simp [k3]
       simp only [b3', Bool.false_eq_true, if_false]
       exact evJ2 hp (by omega) hc (hgo _ _ h5 h6) (by simp) (tp_mk d2)
  ·simp only [hk0, decide_false, Bool.false_eq_true, if_false]
   exact ⟨_, rfl, ht, by simp only; omega, hc⟩
 obtain ⟨a, t1, a1, a2, a3, a4⟩ := range_s h 0 most (by omega) (by omega) (by omega)
 obtain ⟨⟨l, t'⟩, h1, h2, h3, h4⟩ := key F a t1.L t1.At [(-1), (-1), (-1)] [0, 0, 0] [] ⟨a3, by simp; omega, a2, rfl, rfl, fun e he => by simp at he⟩ (by omega)
 exact ⟨l, t', by simp only [Gq4, a1, Option.bind_some]; exact h1, h2, h3, h4⟩
theorem Cand.short {F : Nat} {l : List Gq0} (h : Cand l) (hF : 20 < F) : Short F l := fun e he => by have := h e he; omega
end Go.Sh
set_option linter.unusedVariables false
set_option linter.unusedSimpArgs false
namespace Go.Sh
open Go.L

theorem has_loop (v : Int) : ∀ (s p : List Int) (n : Nat), (p ++ s).length < 1000000 → s.length < n → q65q (p ++ s) v n (p.length : Int) = some (decide (v ∈ s)) := by
 intro s
 induction s with
 | nil => intro p n hb hn; cases n with
  | zero => omega
  | succ n => simp only [q65q, q107q, dge, Bool.false_eq_true, if_false, List.not_mem_nil, decide_false]
 | cons x s ih => intro p n hb hn; cases n with
  | zero => omega
  | succ n =>
   have hl : p.length < 1000000 := by simp at hb; omega
   have h1 := ih (p ++ [x]) n (by simpa using hb) (by simpa using hn)
   simp only [q65q, q107q, dlt, if_true, idx_at, Option.bind_some]
   by_cases hv : x = v
   ·simp [hv]
   ·have hb' : (x == v) = false := by simp [hv]
    rw [nxt p x (by omega), snoc, h1]
    simp [hb', Ne.symm hv]
theorem has_s {F : Nat} {l : List Int} {v : Int} (hb : l.length < 1000000) (hF : l.length < F) : ref06_Has F l v = some (decide (v ∈ l)) := has_loop v l [] F (by simpa using hb) hF
theorem rsorted_loop : ∀ (s p : List Int) (n : Nat), (p ++ s).length < 1000000 → s.length < n → q93q (p ++ s) n (p.length : Int) = some (srtL p.getLast? s) := by
 intro s
 induction s with
 | nil => intro p n hb hn; cases n with
  | zero => omega
  | succ n => simp only [q93q, q136q, dge, Bool.false_eq_true, if_false, srtL]
 | cons x s ih => intro p n hb hn; cases n with
  | zero => omega
  | succ n =>
   have hl : p.length < 1000000 := by simp at hb; omega
   have hrec := ih (p ++ [x]) n (by simpa using hb) (by simpa using hn)
   rw [List.getLast?_concat] at hrec
   simp only [q93q, q136q, dlt, if_true, idx_at, Option.bind_some, srtL]
   have key : (if decide (x < 0) = true then some true else if decide (x > 9999) = true then some true else if decide ((p.length : Int) > 0) = true then (idx (p ++ x :: s) (i64 ((p.length : Int) - 1))).bind fun x10 => some (decide (x10 ≥ x)) else some false) = some (decide (x < 0) || (decide (x > 9999) || (match p.getLast? with | some q => decide (q ≥ x) | .none => false))) := by
    by_cases h1 : x < 0
    ·simp [h1]
    ·by_cases h2 : x > 9999
     ·simp [h1, h2]
     ·rcases List.eq_nil_or_concat p with rfl | ⟨q, y, rfl⟩
      ·simp [h1, h2]
      ·simp only [List.concat_eq_append] at hb hl hrec ⊢
       have h3 : decide (((q ++ [y]).length : Int) > 0) = true := by simp <;> omega
       have h4 : idx (q ++ [y] ++ x :: s) (i64 (((q ++ [y]).length : Int) - 1)) = some y := by
        rw [i64_of (by simp <;> omega) (by simp at hl ⊢; omega)]
        have : ((q ++ [y]).length : Int) - 1 = (q.length : Int) := by simp
        rw [this, ← snoc]; exact idx_at q y (x :: s)
       simp only [h1, h2, h3, h4, decide_false, Bool.false_eq_true, if_false, if_true, Option.bind_some, List.getLast?_concat, Bool.false_or]
   rw [key]
   simp only [Option.bind_some]
   rw [nxt p x (by omega), snoc, hrec]
   cases (decide (x < 0) || (decide (x > 9999) || (match p.getLast? with | some q => decide (q ≥ x) | .none => false))) <;> simp
theorem rsorted_s {F : Nat} {l : List Int} (hF : 60 < F) : q116q F l = some (srt l) := by
 unfold q116q srt
 by_cases h : l.length ≤ 60
 ·have h1 : decide ((l.length : Int) > 60) = false := by simp; omega
  have := rsorted_loop l [] F (by simp; omega) (by omega)
  simp only [h1, Bool.false_eq_true, if_false, h, decide_true, Bool.true_and]
  exact this
 ·have h1 : decide ((l.length : Int) > 60) = true := by simp; omega
  simp [h1, h]
theorem num_L2 {rec1 : Int → Option Int} {n1 : Int} {x : GBag} (hb : x.Seals.length < 1000000) : ∀ (s p : List Int) (n : Nat), x.Seals = p ++ s → s.length < n → q68q rec1 n1 x n (p.length : Int) = if (s.all fun v => inR v 1000000) = true then rec1 (i64 (n1 + 1)) else some 2 := by
 intro s
 induction s with
 | nil => intro p n hp hn; cases n with
  | zero => omega
  | succ n =>
   have : x.Seals = p := by simpa using hp
   rw [← this]
   simp only [q68q, q118q, Int.lt_irrefl, decide_false, Bool.false_eq_true, if_false, List.all_nil, if_true]
 | cons e s ih => intro p n hp hn; cases n with
  | zero => omega
  | succ n =>
   have hlen : p.length < 1000000 := by rw [hp] at hb; simp at hb; omega
   have d1 : decide ((p.length : Int) < (x.Seals.length : Int)) = true := by rw [hp]; exact dlt p e s
   have i1 : idx x.Seals (p.length : Int) = some e := by rw [hp]; exact idx_at p e s
   have hin : q11q e 1000000 = some (inR e 1000000) := rfl
   simp only [q68q, q118q, d1, if_true, i1, Option.bind_some, hin]
   rw [nxt p e (by omega), ih (p ++ [e]) n (by rw [hp]; simp) (by simpa using hn), List.all_cons]
   cases inR e 1000000 <;> simp
theorem num_L1 {F : Nat} (hF : 300 < F) {l : List GBag} (hb : l.length < 1000000) : ∀ (s p : List GBag) (n : Nat), l = p ++ s → s.length < n → q56q F l n (p.length : Int) = if s.all okR = true then some 0 else some 2 := by
 intro s
 induction s with
 | nil => intro p n hp hn; cases n with
  | zero => omega
  | succ n =>
   have : l = p := by simpa using hp
   rw [← this]
   simp only [q56q, q117q, Int.lt_irrefl, decide_false, Bool.false_eq_true, if_false, List.all_nil, if_true]
 | cons x s ih => intro p n hp hn; cases n with
  | zero => omega
  | succ n =>
   have hlen : p.length < 1000000 := by rw [hp] at hb; simp at hb; omega
   have d1 : decide ((p.length : Int) < (l.length : Int)) = true := by rw [hp]; exact dlt p x s
   have i1 : idx l (p.length : Int) = some x := by rw [hp]; exact idx_at p x s
   have h1 : q11q x.Bag 9999 = some (inR x.Bag 9999) := rfl
   have h2 : q11q x.Holder 99 = some (inR x.Holder 99) := rfl
   simp only [q56q, q117q, d1, if_true, i1, Option.bind_some, h1, h2]
   have hrec := ih (p ++ [x]) n (by rw [hp]; simp) (by simpa using hn)
   rw [List.all_cons]
   generalize s.all okR = z at hrec ⊢
   unfold okR
   cases inR x.Bag 9999 with
   | false => simp
   | true =>
    cases inR x.Holder 99 with
    | false => simp
    | true =>
     by_cases l1 : 1 ≤ x.Seals.length
     ·by_cases l2 : x.Seals.length ≤ 300
      ·have e1 : decide ((x.Seals.length : Int) < 1) = false := by rw [decide_eq_false_iff_not]; omega
       have e2 : decide ((x.Seals.length : Int) > 300) = false := by rw [decide_eq_false_iff_not]; omega
       have h5 := num_L2 (rec1 := q56q F l n) (n1 := (p.length : Int)) (x := x) (by omega) x.Seals [] F rfl (by omega)
       have e0 : (([] : List Int).length : Int) = 0 := rfl
       rw [e0] at h5
       simp only [Bool.not_true, Bool.false_eq_true, if_false, e1, e2, Option.bind_some, h5, l1, l2, decide_true, Bool.true_and]
       rw [nxt p x (by omega), hrec]
       cases (x.Seals.all fun v => inR v 1000000) <;> simp
      ·have e1 : decide ((x.Seals.length : Int) < 1) = false := by rw [decide_eq_false_iff_not]; omega
       have e2 : decide ((x.Seals.length : Int) > 300) = true := by rw [decide_eq_true_eq]; omega
       simp [e1, e2, l2]
     ·have e1 : decide ((x.Seals.length : Int) < 1) = true := by rw [decide_eq_true_eq]; omega
      simp [e1, l1]
theorem numbers_s {F : Nat} (hF : 300 < F) {l : List GBag} (hb : l.length < 1000000) (hl : l.length < F) : q171q F l = some (if l.all okR = true then 0 else 2) := by
 have := num_L1 hF hb l [] F rfl hl
 unfold q171q
 refine Eq.trans this ?_
 cases l.all okR <;> simp
def cntS (l : List GBag) (v : Int) : Nat := (l.flatMap (·.Seals)).count v
def cntP (l : List GBag) (v : Int) : Nat := (l.filter fun b => decide (v ∈ b.Packed)).length
theorem sealed_L2 {rec1 : Int → Int → Option Int} {l p q : List GBag} {x : GBag} {v : Int} (hl : l = p ++ x :: q) (hlen : p.length < 1000000) : ∀ (s r : List Int) (n c : Nat), x.Seals = r ++ s → s.length < n → c + s.length < 1000000 → r.length + s.length < 1000000 →
  q96q rec1 l v (p.length : Int) n (c : Int) (r.length : Int) = rec1 ((c + s.count v : Nat) : Int) ((p.length + 1 : Nat) : Int) := by
 have i1 : idx l (p.length : Int) = some x := by rw [hl]; exact idx_at p x q
 intro s
 induction s with
 | nil => intro r n c hr hn hc hrl; cases n with
  | zero => omega
  | succ n =>
   have : x.Seals = r := by simpa using hr
   rw [← this]
   simp only [q96q, q139q, i1, Option.bind_some, Int.lt_irrefl, decide_false, Bool.false_eq_true, if_false, List.count_nil, Nat.add_zero]
   rw [nxtN (by omega)]
 | cons e s ih => intro r n c hr hn hc hrl; cases n with
  | zero => omega
  | succ n =>
   have hrl' : r.length < 1000000 := by omega
   have d1 : decide ((r.length : Int) < (x.Seals.length : Int)) = true := by rw [hr]; exact dlt r e s
   have i2 : idx x.Seals (r.length : Int) = some e := by rw [hr]; exact idx_at r e s
   simp only [q96q, q139q, i1, Option.bind_some, d1, if_true, i2]
   rw [nxt r e (by omega)]
   simp only [List.length_cons] at hc hrl
   by_cases he : e = v
   ·have h1 : i64 ((c : Int) + 1) = ((c + 1 : Nat) : Int) := nxtN (by omega)
    have h2 : (e == v) = true := by simp [he]
    simp only [h2, if_true, h1]
    rw [ih (r ++ [e]) n (c + 1) (by rw [hr]; simp) (by simpa using hn) (by omega) (by simp; omega), he, List.count_cons_self]
    congr 2; omega
   ·have h2 : (e == v) = false := by simp [he]
    simp only [h2, Bool.false_eq_true, if_false]
    rw [ih (r ++ [e]) n c (by rw [hr]; simp) (by simpa using hn) (by omega) (by simp; omega), List.count_cons_of_ne (by simpa using he)]
theorem sealed_L1 {F : Nat} {l : List GBag} {v : Int} (hF : ∀ b ∈ l, b.Seals.length < F) (hb : l.length < 1000000) (ht : (l.flatMap (·.Seals)).length < 1000000) : ∀ (s p : List GBag) (n c : Nat), l = p ++ s → s.length < n → c + (s.flatMap (·.Seals)).length < 1000000 →
  q62q F l v n (c : Int) (p.length : Int) = some ((c + cntS s v : Nat) : Int) := by
 intro s
 induction s with
 | nil => intro p n c hp hn hc; cases n with
  | zero => omega
  | succ n =>
   have : l = p := by simpa using hp
   rw [← this]
   simp only [q62q, q138q, Int.lt_irrefl, decide_false, Bool.false_eq_true, if_false, cntS, List.flatMap_nil, List.count_nil, Nat.add_zero]
 | cons x s ih => intro p n c hp hn hc; cases n with
  | zero => omega
  | succ n =>
   have hlen : p.length < 1000000 := by rw [hp] at hb; simp at hb; omega
   have d1 : decide ((p.length : Int) < (l.length : Int)) = true := by rw [hp]; exact dlt p x s
   have hx := hF x (by rw [hp]; simp)
   simp only [List.flatMap_cons, List.length_append] at hc
   have h5 := sealed_L2 (rec1 := q62q F l v n) (v := v) hp hlen x.Seals [] F c rfl hx (by omega) (by simp; omega)
   have e0 : (([] : List Int).length : Int) = 0 := rfl
   rw [e0] at h5
   simp only [q62q, q138q, d1, if_true, h5]
   have hcl : x.Seals.count v ≤ x.Seals.length := List.count_le_length
   have := ih (p ++ [x]) n (c + x.Seals.count v) (by rw [hp]; simp) (by simpa using hn) (by omega)
   rw [List.length_append, List.length_singleton] at this
   rw [this]
   simp only [cntS, List.flatMap_cons, List.count_append, Nat.add_assoc]
theorem sealed_s {F : Nat} {l : List GBag} {v : Int} (hF : ∀ b ∈ l, b.Seals.length < F) (hb : l.length < 1000000) (hlF : l.length < F) (ht : (l.flatMap (·.Seals)).length < 1000000) : q156q F l v = some (cntS l v : Int) := by
 have := sealed_L1 (v := v) hF hb ht l [] F 0 rfl hlF (by omega)
 rw [Nat.zero_add] at this
 exact this
theorem packed_L1 {F : Nat} {l : List GBag} {v : Int} (hF : ∀ b ∈ l, b.Packed.length < 1000000 ∧ b.Packed.length < F) (hb : l.length < 1000000) : ∀ (s p : List GBag) (n c : Nat), l = p ++ s → s.length < n → c ≤ p.length →
  q95q F l v n (c : Int) (p.length : Int) = some ((c + cntP s v : Nat) : Int) := by
 intro s
 induction s with
 | nil => intro p n c hp hn hc; cases n with
  | zero => omega
  | succ n =>
   have : l = p := by simpa using hp
   rw [← this]
   simp only [q95q, q137q, Int.lt_irrefl, decide_false, Bool.false_eq_true, if_false, cntP, List.filter_nil, List.length_nil, Nat.add_zero]
 | cons x s ih => intro p n c hp hn hc; cases n with
  | zero => omega
  | succ n =>
   have hlen : p.length < 1000000 := by rw [hp] at hb; simp at hb; omega
   have d1 : decide ((p.length : Int) < (l.length : Int)) = true := by rw [hp]; exact dlt p x s
   have i1 : idx l (p.length : Int) = some x := by rw [hp]; exact idx_at p x s
   have hx := hF x (by rw [hp]; simp)
   simp only [q95q, q137q, d1, if_true, i1, Option.bind_some, has_s hx.1 hx.2]
   rw [nxt p x (by omega)]
   by_cases hm : v ∈ x.Packed
   ·simp only [hm, decide_true, if_true]
    rw [nxtN (by omega), ih (p ++ [x]) n (c + 1) (by rw [hp]; simp) (by simpa using hn) (by simp; omega)]
    simp only [cntP, List.filter_cons, hm, decide_true, if_true, List.length_cons]
    congr 2; omega
   ·simp only [hm, decide_false, Bool.false_eq_true, if_false]
    rw [ih (p ++ [x]) n c (by rw [hp]; simp) (by simpa using hn) (by simp; omega)]
    simp only [cntP, List.filter_cons, hm, decide_false, Bool.false_eq_true, if_false]
theorem packed_s {F : Nat} {l : List GBag} {v : Int} (h : BShort F l) : q183q F l v = some (cntP l v : Int) := by
 have := packed_L1 (v := v) h.pk h.len l [] F 0 rfl h.lenF (by omega)
 rw [Nat.zero_add] at this
 exact this
theorem chk_L6 {F : Nat} {rec4 : Int → Option Int} {l p q : List GBag} {x : GBag} (h : BShort F l) (hl : l = p ++ x :: q) : ∀ (s r : List Int) (n : Nat), x.Packed = r ++ s → s.length < n →
  q77q rec4 F l (p.length : Int) n (r.length : Int) = if (s.any fun v => decide (1 < cntP l v)) = true then some 9 else rec4 ((p.length + 1 : Nat) : Int) := by
 have i1 : idx l (p.length : Int) = some x := by rw [hl]; exact idx_at p x q
 have hlen : p.length < 1000000 := by have := h.len; rw [hl] at this; simp at this; omega
 have hxl := (h.pk x (by rw [hl]; simp)).1
 intro s
 induction s with
 | nil => intro r n hr hn; cases n with
  | zero => omega
  | succ n =>
   have : x.Packed = r := by simpa using hr
   rw [← this]
   simp only [q77q, q152q, i1, Option.bind_some, Int.lt_irrefl, decide_false, Bool.false_eq_true, if_false, List.any_nil]
   rw [nxtN (by omega)]
 | cons e s ih => intro r n hr hn; cases n with
  | zero => omega
  | succ n =>
   have hrl : r.length < 1000000 := by rw [hr] at hxl; simp at hxl; omega
   have d1 : decide ((r.length : Int) < (x.Packed.length : Int)) = true := by rw [hr]; exact dlt r e s
   have i2 : idx x.Packed (r.length : Int) = some e := by rw [hr]; exact idx_at r e s
   simp only [q77q, q152q, i1, Option.bind_some, d1, if_true, i2, packed_s h]
   rw [nxt r e (by omega), ih (r ++ [e]) n (by rw [hr]; simp) (by simpa using hn), List.any_cons]
   by_cases hc : 1 < cntP l e
   ·have : decide ((cntP l e : Int) > 1) = true := by rw [decide_eq_true_eq]; omega
    simp [this, hc]
   ·have : decide ((cntP l e : Int) > 1) = false := by rw [decide_eq_false_iff_not]; omega
    simp [this, hc]
theorem chk_L5 {F : Nat} {rec4 : Int → Option Int} {l p q : List GBag} {x : GBag} (h : BShort F l) (ht : (l.flatMap (·.Seals)).length < 1000000) (hl : l = p ++ x :: q) : ∀ (s r : List Int) (n : Nat), x.Seals = r ++ s → s.length < n →
  q110q rec4 F l (p.length : Int) n (r.length : Int) = if (s.any fun v => decide (1 < cntS l v)) = true then some 9 else q77q rec4 F l (p.length : Int) F 0 := by
 have i1 : idx l (p.length : Int) = some x := by rw [hl]; exact idx_at p x q
 have hxl := (h.sl x (by rw [hl]; simp)).1
 intro s
 induction s with
 | nil => intro r n hr hn; cases n with
  | zero => omega
  | succ n =>
   have : x.Seals = r := by simpa using hr
   rw [← this]
   simp only [q110q, q151q, i1, Option.bind_some, Int.lt_irrefl, decide_false, Bool.false_eq_true, if_false, List.any_nil]
 | cons e s ih => intro r n hr hn; cases n with
  | zero => omega
  | succ n =>
   have hrl : r.length < 1000000 := by rw [hr] at hxl; simp at hxl; omega
   have d1 : decide ((r.length : Int) < (x.Seals.length : Int)) = true := by rw [hr]; exact dlt r e s
   have i2 : idx x.Seals (r.length : Int) = some e := by rw [hr]; exact idx_at r e s
   simp only [q110q, q151q, i1, Option.bind_some, d1, if_true, i2, sealed_s (fun b hb => (h.sl b hb).2) h.len h.lenF ht]
   rw [nxt r e (by omega), ih (r ++ [e]) n (by rw [hr]; simp) (by simpa using hn), List.any_cons]
   by_cases hc : 1 < cntS l e
   ·have : decide ((cntS l e : Int) > 1) = true := by rw [decide_eq_true_eq]; omega
    simp [this, hc]
   ·have : decide ((cntS l e : Int) > 1) = false := by rw [decide_eq_false_iff_not]; omega
    simp [this, hc]
def badB (l : List GBag) (x : GBag) : Bool := (x.Seals.any fun v => decide (1 < cntS l v)) || (x.Packed.any fun v => decide (1 < cntP l v))
theorem chk_L4 {F : Nat} {l : List GBag} (h : BShort F l) (ht : (l.flatMap (·.Seals)).length < 1000000) : ∀ (s p : List GBag) (n : Nat), l = p ++ s → s.length < n → q39q F l n (p.length : Int) = some (if s.any (badB l) = true then 9 else 0) := by
 intro s
 induction s with
 | nil => intro p n hp hn; cases n with
  | zero => omega
  | succ n =>
   have : l = p := by simpa using hp
   rw [← this]
   simp only [q39q, q150q, Int.lt_irrefl, decide_false, Bool.false_eq_true, if_false, List.any_nil]
 | cons x s ih => intro p n hp hn; cases n with
  | zero => omega
  | succ n =>
   have d1 : decide ((p.length : Int) < (l.length : Int)) = true := by rw [hp]; exact dlt p x s
   have hx : x ∈ l := by rw [hp]; simp
   have h5 := chk_L5 (rec4 := q39q F l n) h ht hp x.Seals [] F rfl (h.sl x hx).2
   have h6 := chk_L6 (rec4 := q39q F l n) h hp x.Packed [] F rfl (h.pk x hx).2
   have e0 : (([] : List Int).length : Int) = 0 := rfl
   rw [e0] at h5 h6
   have hrec := ih (p ++ [x]) n (by rw [hp]; simp) (by simpa using hn)
   rw [List.length_append, List.length_singleton] at hrec
   simp only [q39q, q150q, d1, if_true, h5, h6, hrec]
   have hbx : badB l x = ((x.Seals.any fun v => decide (1 < cntS l v)) || (x.Packed.any fun v => decide (1 < cntP l v))) := rfl
   have hany : (x :: s).any (badB l) = (badB l x || s.any (badB l)) := List.any_cons
   rw [hbx] at hany
   by_cases a : (x.Seals.any fun v => decide (1 < cntS l v)) = true
   ·rw [a, Bool.true_or, Bool.true_or] at hany
    simp only [a, if_true, hany]
   ·rw [Bool.not_eq_true] at a
    by_cases b : (x.Packed.any fun v => decide (1 < cntP l v)) = true
    ·rw [a, b, Bool.false_or, Bool.true_or] at hany
     simp only [a, b, Bool.false_eq_true, if_false, if_true, hany]
    ·rw [Bool.not_eq_true] at b
     rw [a, b, Bool.false_or, Bool.false_or] at hany
     simp only [a, b, Bool.false_eq_true, if_false, hany]
theorem chk_L3 {F : Nat} {l : List GBag} (hb : l.length < 1000000) : ∀ (s p : List GBag) (y : GBag) (n : Nat), l = p ++ y :: s → s.length < n → q48q F l n ((p.length + 1 : Nat) : Int) = if ascB (y :: s) = true then q39q F l F 0 else some 5 := by
 intro s
 induction s with
 | nil => intro p y n hl hn; cases n with
  | zero => omega
  | succ n =>
   have d : decide (((p.length + 1 : Nat) : Int) < (l.length : Int)) = false := by rw [hl]; simp
   simp only [q48q, q109q, d, Bool.false_eq_true, if_false, ascB, Bool.and_self, if_true]
 | cons z s ih => intro p y n hl hn; cases n with
  | zero => omega
  | succ n =>
   have hlen : p.length < 1000000 := by rw [hl] at hb; simp at hb; omega
   have d : decide (((p.length + 1 : Nat) : Int) < (l.length : Int)) = true := by rw [hl]; simp; omega
   have i1 : idx l (i64 (((p.length + 1 : Nat) : Int) - 1)) = some y := by
    rw [i64_of (by omega) (by omega)]
    have : ((p.length + 1 : Nat) : Int) - 1 = (p.length : Int) := by omega
    rw [this, hl]; exact idx_at p y (z :: s)
   have i2 : idx l ((p.length + 1 : Nat) : Int) = some z := by
    rw [hl, snoc]; exact idx_mid (by simp)
   have hrec := ih (p ++ [y]) z n (by rw [hl]; simp) (by simpa using hn)
   rw [List.length_append, List.length_singleton] at hrec
   simp only [q48q, q109q, d, if_true, i1, i2, Option.bind_some, ge_iff_le]
   rw [nxtN (by omega), hrec]
   by_cases hyz : y.Bag < z.Bag
   ·have h1 : decide (z.Bag ≤ y.Bag) = false := by rw [decide_eq_false_iff_not]; omega
    have h2 : ascB (y :: z :: s) = ascB (z :: s) := by rw [ascB]; simp [hyz]
    simp only [h1, h2, Bool.false_eq_true, if_false]
   ·have h1 : decide (z.Bag ≤ y.Bag) = true := by rw [decide_eq_true_eq]; omega
    have h2 : ascB (y :: z :: s) = false := by rw [ascB]; simp [hyz]
    simp only [h1, h2, Bool.false_eq_true, if_true, if_false]
theorem chk_L3' {F : Nat} (hF : 0 < F) {l : List GBag} (hb : l.length < 1000000) (hlF : l.length < F) : q48q F l F 1 = if ascB l = true then q39q F l F 0 else some 5 := by
 cases l with
 | nil =>
  obtain ⟨k, rfl⟩ : ∃ k, F = k + 1 := ⟨F - 1, by omega⟩
  have : decide ((1 : Int) < (([] : List GBag).length : Int)) = false := by simp
  simp only [q48q, q109q, this, Bool.false_eq_true, if_false, ascB, if_true]
 | cons y s =>
  have := chk_L3 (F := F) hb s [] y F rfl (by simp at hlF; omega)
  exact this
theorem chk_L2 {F : Nat} {l : List GBag} (hb : l.length < 1000000) : ∀ (s p : List GBag) (n : Nat), l = p ++ s → s.length < n → q76q F l n (p.length : Int) = if s.all okT = true then q48q F l F 1 else some 8 := by
 intro s
 induction s with
 | nil => intro p n hp hn; cases n with
  | zero => omega
  | succ n =>
   have : l = p := by simpa using hp
   rw [← this]
   simp only [q76q, q149q, Int.lt_irrefl, decide_false, Bool.false_eq_true, if_false, List.all_nil, if_true]
 | cons x s ih => intro p n hp hn; cases n with
  | zero => omega
  | succ n =>
   have hlen : p.length < 1000000 := by rw [hp] at hb; simp at hb; omega
   have d1 : decide ((p.length : Int) < (l.length : Int)) = true := by rw [hp]; exact dlt p x s
   have i1 : idx l (p.length : Int) = some x := by rw [hp]; exact idx_at p x s
   have hrec := ih (p ++ [x]) n (by rw [hp]; simp) (by simpa using hn)
   simp only [q76q, q149q, d1, if_true, i1, Option.bind_some]
   rw [nxt p x (by omega), hrec, List.all_cons]
   generalize s.all okT = z
   unfold okT
   cases x.Open with
   | true =>
    by_cases h : x.Holder = 0
    ·simp [h]
    ·simp [h]
   | false =>
    by_cases h : x.Found.length = 0
    ·simp [h]
    ·have h2 : decide ((x.Found.length : Int) > 0) = true := by rw [decide_eq_true_eq]; omega
     simp only [Bool.not_false, if_true, h2, Option.bind_some, Bool.false_eq_true, if_false, h, decide_false, Bool.false_and]
theorem chk_L1 {F : Nat} (hF : 60 < F) {l : List GBag} (hb : l.length < 1000000) : ∀ (s p : List GBag) (n : Nat), l = p ++ s → s.length < n → q108q F l n (p.length : Int) = if s.all okS = true then q76q F l F 0 else some 1 := by
 intro s
 induction s with
 | nil => intro p n hp hn; cases n with
  | zero => omega
  | succ n =>
   have : l = p := by simpa using hp
   rw [← this]
   simp only [q108q, q148q, Int.lt_irrefl, decide_false, Bool.false_eq_true, if_false, List.all_nil, if_true]
 | cons x s ih => intro p n hp hn; cases n with
  | zero => omega
  | succ n =>
   have hlen : p.length < 1000000 := by rw [hp] at hb; simp at hb; omega
   have d1 : decide ((p.length : Int) < (l.length : Int)) = true := by rw [hp]; exact dlt p x s
   have i1 : idx l (p.length : Int) = some x := by rw [hp]; exact idx_at p x s
   have hrec := ih (p ++ [x]) n (by rw [hp]; simp) (by simpa using hn)
   simp only [q108q, q148q, d1, if_true, i1, Option.bind_some, rsorted_s hF]
   rw [nxt p x (by omega), hrec, List.all_cons]
   generalize s.all okS = z
   unfold okS
   cases srt x.Packed <;> cases srt x.Found <;> simp
theorem cntP_eq {v : Int} : ∀ {l : List GBag}, (∀ b ∈ l, b.Packed.Nodup) → cntP l v = (l.flatMap (·.Packed)).count v
 | [], _ => rfl
 | x :: s, h => by
  have ih := cntP_eq (v := v) (l := s) fun b hb => h b (by simp [hb])
  have hx := h x (by simp)
  unfold cntP at ih ⊢
  rw [List.flatMap_cons, List.count_append, ← ih, List.filter_cons]
  have h1 := List.nodup_iff_count.1 hx v
  by_cases hm : v ∈ x.Packed
  ·have := List.count_pos_iff.2 hm
   simp only [hm, decide_true, if_true, List.length_cons]; omega
  ·have := List.count_eq_zero.2 hm
   simp only [hm, decide_false, Bool.false_eq_true, if_false]; omega
theorem dup_iff {l : List Int} : (l.any fun v => decide (1 < l.count v)) = decide (¬ l.Nodup) := by
 rw [Bool.eq_iff_iff, decide_eq_true_eq, List.any_eq_true, List.nodup_iff_count]
 constructor
 ·rintro ⟨v, hv, h⟩ hn
  have := hn v
  rw [decide_eq_true_eq] at h; omega
 ·intro h
  by_cases hx : ∃ v ∈ l, 1 < l.count v
  ·obtain ⟨v, h1, h2⟩ := hx
   exact ⟨v, h1, by simpa using h2⟩
  ·exact absurd (fun v => by
    by_cases hv : v ∈ l
    ·by_cases h2 : 1 < l.count v
     ·exact absurd ⟨v, hv, h2⟩ hx
     ·omega
    ·rw [List.count_eq_zero.2 hv]; omega) h
theorem any_flat {f : GBag → List Int} {q : Int → Bool} : ∀ (l : List GBag), (l.any fun x => (f x).any q) = (l.flatMap f).any q
 | [] => rfl
 | x :: s => by rw [List.any_cons, List.flatMap_cons, List.any_append, any_flat s]
theorem any_or {α : Type} {f g : α → Bool} : ∀ (l : List α), (l.any fun x => f x || g x) = (l.any f || l.any g)
 | [] => rfl
 | x :: s => by rw [List.any_cons, List.any_cons, List.any_cons, any_or s]; cases f x <;> cases g x <;> cases s.any f <;> cases s.any g <;> rfl
theorem bad_dup {l : List GBag} (h : l.all okS = true) : l.any (badB l) = dupB l := by
 have hp : ∀ b ∈ l, b.Packed.Nodup := fun b hb => by
  have := List.all_eq_true.1 h b hb
  unfold okS at this
  rw [Bool.and_eq_true] at this
  exact srt_nodup this.1
 have e1 : badB l = fun x => (x.Seals.any fun v => decide (1 < (l.flatMap (·.Seals)).count v)) || (x.Packed.any fun v => decide (1 < (l.flatMap (·.Packed)).count v)) := by
  funext x
  unfold badB cntS
  simp only [cntP_eq hp]
 rw [e1, any_or, any_flat (f := (·.Seals)), any_flat (f := (·.Packed)), dup_iff, dup_iff]
 rfl
theorem flat_len {m : Nat} {f : GBag → List Int} : ∀ {l : List GBag}, (∀ b ∈ l, (f b).length ≤ m) → (l.flatMap f).length ≤ l.length * m
 | [], _ => by simp
 | x :: s, h => by
  have := flat_len (l := s) fun b hb => h b (by simp [hb])
  have hx := h x (by simp)
  rw [List.flatMap_cons, List.length_append, List.length_cons, Nat.succ_mul]; omega
theorem rcheck_s {F : Nat} (hF : 300 < F) {l : List GBag} (h : BShort F l) : q194q F l = some (checkC l) := by
 unfold q194q checkC
 by_cases h20 : 20 < l.length
 ·have : decide ((l.length : Int) > 20) = true := by simp; omega
  simp [this, h20]
 ·have d : decide ((l.length : Int) > 20) = false := by simp; omega
  simp only [d, Bool.false_eq_true, if_false, h20, numbers_s hF h.len h.lenF, Option.bind_some]
  cases hR : l.all okR with
  | false => simp
  | true =>
   have ht : (l.flatMap (·.Seals)).length < 1000000 := by
    have := flat_len (m := 300) (f := (·.Seals)) (l := l) fun b hb => (okR_len (List.all_eq_true.1 hR b hb)).1
    have h2 : l.length * 300 ≤ 20 * 300 := Nat.mul_le_mul_right _ (by omega)
    omega
   have h1 := chk_L1 (F := F) (by omega) h.len l [] F rfl h.lenF
   have h2 := chk_L2 (F := F) h.len l [] F rfl h.lenF
   have h4 := chk_L4 h ht l [] F rfl h.lenF
   have e0 : (([] : List GBag).length : Int) = 0 := rfl
   rw [e0] at h1 h2 h4
   simp only [if_true, bne_self_eq_false, Bool.false_eq_true, if_false, Bool.true_eq_false, h1, h2, chk_L3' (by omega) h.len h.lenF, h4]
   cases hS : l.all okS with
   | false => simp
   | true =>
    rw [bad_dup hS]
    cases l.all okT <;> cases ascB l <;> simp
end Go.Sh
set_option linter.unusedVariables false
set_option linter.unusedSimpArgs false
namespace Go.Sh
open Go.L

theorem ranges_s {F : Nat} (hF : 60 < F) {e : Gq0} : q184q F e = some (!badV e) := by
 unfold q184q
 have key : (if decide (e.Kind < 1) = true then some true else if decide (e.Kind > 4) = true then some true else (q11q e.Bag 9999).bind fun r5 => if (!r5) = true then some true else (q11q e.Seal 1000000).bind fun r7 => if (!r7) = true then some true else (q11q e.From 99).bind fun r9 => some (!r9)) = some (badE e) := by
  unfold badE q11q
  simp only [Option.bind_some]
  show (if decide (e.Kind < 1) = true then some true else if decide (e.Kind > 4) = true then some true else if (!inR e.Bag 9999) = true then some true else if (!inR e.Seal 1000000) = true then some true else some (!inR e.From 99)) = _
  cases decide (e.Kind < 1) <;> cases decide (e.Kind > 4) <;> cases (!inR e.Bag 9999) <;> cases (!inR e.Seal 1000000) <;> simp
 rw [key]
 have h3 : q11q e.To 99 = some (inR e.To 99) := rfl
 simp only [Option.bind_some, rsorted_s hF, h3]
 unfold badV
 cases hb : badE e with
 | true => simp
 | false =>
  simp only [Bool.false_eq_true, if_false, Bool.false_or]
  by_cases h2 : e.Kind = 2
  ·cases inR e.To 99 <;> simp [h2]
  ·have b2 : (e.Kind == 2) = false := by simp [h2]
   simp only [h2, b2, Bool.false_eq_true, if_false, Option.bind_some]
   by_cases h1 : e.Kind = 1
   ·simp [h1]
   ·by_cases h3 : e.Kind = 3
    ·simp [h3]
    ·simp [h1, h3]
theorem rindex_loop {l : List GBag} {v : Int} (hb : l.length < 1000000) : ∀ (s p : List GBag) (n : Nat), l = p ++ s → s.length < n → q112q l v n (p.length : Int) = some (match s.findIdx? fun b => b.Bag == v with | some k => ((p.length + k : Nat) : Int) | .none => -1) := by
 intro s
 induction s with
 | nil => intro p n hp hn; cases n with
  | zero => omega
  | succ n =>
   have : l = p := by simpa using hp
   rw [← this]
   simp only [q112q, q155q, Int.lt_irrefl, decide_false, Bool.false_eq_true, if_false, List.findIdx?_nil]
 | cons x s ih => intro p n hp hn; cases n with
  | zero => omega
  | succ n =>
   have hlen : p.length < 1000000 := by rw [hp] at hb; simp at hb; omega
   have d1 : decide ((p.length : Int) < (l.length : Int)) = true := by rw [hp]; exact dlt p x s
   have i1 : idx l (p.length : Int) = some x := by rw [hp]; exact idx_at p x s
   simp only [q112q, q155q, d1, if_true, i1, Option.bind_some]
   rw [nxt p x (by omega), ih (p ++ [x]) n (by rw [hp]; simp) (by simpa using hn), List.findIdx?_cons]
   cases hx : (x.Bag == v) with
   | true => simp
   | false =>
    simp only [Bool.false_eq_true, if_false]
    cases hs : s.findIdx? fun b => b.Bag == v with
    | none => simp
    | some k =>
     show some (((p ++ [x]).length + k : Nat) : Int) = some ((p.length + (k + 1) : Nat) : Int)
     rw [List.length_append, List.length_singleton]; congr 2; omega
theorem rindex_s {F : Nat} {l : List GBag} {v : Int} (h : BShort F l) : q175q F l v = some (match placeB l v with | some k => (k : Int) | .none => -1) := by
 have := rindex_loop (v := v) h.len l [] F rfl h.lenF
 unfold q175q placeB
 refine Eq.trans this ?_
 cases l.findIdx? fun b => b.Bag == v with
 | none => rfl
 | some k => simp
theorem inS_cnt {l : List GBag} {v : Int} : decide ((cntS l v : Int) > 0) = inS l v := by
 rw [Bool.eq_iff_iff, decide_eq_true_eq, inS_mem]
 unfold cntS
 rw [← List.count_pos_iff]
 omega
theorem cntP_pos {v : Int} : ∀ {l : List GBag}, 0 < cntP l v ↔ ∃ b ∈ l, v ∈ b.Packed
 | [] => by simp [cntP]
 | x :: s => by
  have ih := cntP_pos (v := v) (l := s)
  unfold cntP at ih ⊢
  rw [List.filter_cons]
  by_cases hm : v ∈ x.Packed
  ·simp [hm]
  ·simp only [hm, decide_false, Bool.false_eq_true, if_false, ih]
   simp [hm]
theorem inP_cnt {l : List GBag} {v : Int} : decide ((cntP l v : Int) > 0) = inP l v := by
 rw [Bool.eq_iff_iff, decide_eq_true_eq, inP_mem, List.mem_flatMap, ← cntP_pos]
 omega
theorem app_nil {α : Type} {l : List α} (h : l.length < 1000000) : app [] l = some l := by rw [app_of (by simp; omega)]; rfl
theorem seal_L2 {l : List GBag} {e : Gq0} (hb : l.length < 1000) : ∀ (s p : List GBag) (n : Nat), l = p ++ s → s.length < n → cutB l e.Bag = p.length + cutB s e.Bag → q131q l e n (p.length : Int) = some (l.take (cutB l e.Bag) ++ [bagOf e] ++ l.drop (cutB l e.Bag), 0) := by
 have hend : ∀ p s : List GBag, l = p ++ s → cutB l e.Bag = p.length → ((slc l 0 (p.length : Int)).bind fun v21 => (app [] v21).bind fun v22 => (app v22 ([(GBag.mk e.Bag e.From false [e.Seal] e.Candidates [])])).bind fun v23 => (slc l (p.length : Int) (l.length : Int)).bind fun v24 => (app v23 v24).bind fun v25 => some (v25, (0 : Int))) = some (l.take (cutB l e.Bag) ++ [bagOf e] ++ l.drop (cutB l e.Bag), 0) := fun p s hp hc => by
  have hpl : p.length ≤ l.length := by rw [hp]; simp
  rw [slc_take hpl, Option.bind_some, app_nil (by simp; omega), Option.bind_some, app_of (by simp; omega), Option.bind_some, slc_drop hpl, Option.bind_some, app_of (by simp; omega), Option.bind_some, hc]
  rfl
 intro s
 induction s with
 | nil => intro p n hp hn hc; cases n with
  | zero => omega
  | succ n =>
   have hlp : l = p := by simpa using hp
   have d : decide ((p.length : Int) < (l.length : Int)) = false := by rw [hlp]; simp
   simp only [q131q, q163q, d, Bool.false_eq_true, if_false, Option.bind_some]
   exact hend p [] hp (by rw [hc]; simp [cutB])
 | cons x s ih => intro p n hp hn hc; cases n with
  | zero => omega
  | succ n =>
   have hlen : p.length < 1000000 := by rw [hp] at hb; simp at hb; omega
   have d1 : decide ((p.length : Int) < (l.length : Int)) = true := by rw [hp]; exact dlt p x s
   have i1 : idx l (p.length : Int) = some x := by rw [hp]; exact idx_at p x s
   simp only [q131q, q163q, d1, if_true, i1, Option.bind_some]
   by_cases hx : x.Bag < e.Bag
   ·simp only [hx, decide_true, if_true]
    rw [nxt p x (by omega)]
    refine ih (p ++ [x]) n (by rw [hp]; simp) (by simpa using hn) ?_
    rw [hc]; unfold cutB
    rw [List.takeWhile_cons_of_pos (by simpa using hx)]
    simp; omega
   ·simp only [hx, decide_false, Bool.false_eq_true, if_false]
    refine hend p (x :: s) hp ?_
    rw [hc]; unfold cutB
    rw [List.takeWhile_cons_of_neg (by simpa using hx)]; simp
theorem seal_L1 {F : Nat} {l : List GBag} {e : Gq0} (h : BShort F l) (h20 : l.length ≤ 20) (hb : e.Candidates.length < 1000000) : ∀ (s p : List Int) (n : Nat) (b : Bool), e.Candidates = p ++ s → s.length < n →
  q130q F l e n b (p.length : Int) = some (if (b || s.any (inP l)) = true then ([], 9) else if 20 ≤ l.length then ([], 3) else (l.take (cutB l e.Bag) ++ [bagOf e] ++ l.drop (cutB l e.Bag), 0)) := by
 intro s
 induction s with
 | nil => intro p n b hp hn; cases n with
  | zero => omega
  | succ n =>
   have : e.Candidates = p := by simpa using hp
   rw [← this]
   simp only [q130q, q162q, Int.lt_irrefl, decide_false, Bool.false_eq_true, if_false, List.any_nil, Bool.or_false]
   cases b with
   | true => simp
   | false =>
    simp only [Bool.false_eq_true, if_false]
    by_cases hl : 20 ≤ l.length
    ·have : ((l.length : Int) == 20) = true := by rw [beq_iff_eq]; omega
     simp [this, hl]
    ·have : ((l.length : Int) == 20) = false := by rw [beq_eq_false_iff_ne]; omega
     simp only [this, Bool.false_eq_true, if_false, hl]
     exact seal_L2 (by omega) l [] F rfl h.lenF (by simp)
 | cons x s ih => intro p n b hp hn; cases n with
  | zero => omega
  | succ n =>
   have hlen : p.length < 1000000 := by rw [hp] at hb; simp at hb; omega
   have d1 : decide ((p.length : Int) < (e.Candidates.length : Int)) = true := by rw [hp]; exact dlt p x s
   have i1 : idx e.Candidates (p.length : Int) = some x := by rw [hp]; exact idx_at p x s
   simp only [q130q, q162q, d1, if_true, i1, Option.bind_some, packed_s h, inP_cnt]
   have hw : (if b = true then some true else some (inP l x)) = some (b || inP l x) := by cases b <;> rfl
   rw [hw, Option.bind_some, nxt p x (by omega), ih (p ++ [x]) n _ (by rw [hp]; simp) (by simpa using hn), List.any_cons, Bool.or_assoc]
theorem rapply_s {F : Nat} (hF : 400 < F) {l : List GBag} {e : Gq0} (h : BShort F l) (hc : e.Candidates.length < 1000000 ∧ e.Candidates.length < F) : q193q F l e = some (if checkC l ≠ 0 then ([], 1) else stepC l e) := by
 unfold q193q
 rw [rcheck_s (by omega) h, Option.bind_some]
 by_cases h0 : checkC l = 0
 ·have hv := check_val.1 h0
  have hl20 := hv.len
  have ht : (l.flatMap (·.Seals)).length < 1000000 := by
   have := flat_len (m := 300) (f := (·.Seals)) (l := l) fun b hb => (okR_len (hv.r b hb)).1
   have h2 : l.length * 300 ≤ 20 * 300 := Nat.mul_le_mul_right _ (by omega)
   omega
  have hsealed : ∀ v, q156q F l v = some (cntS l v : Int) := fun v => sealed_s (fun b hb => (h.sl b hb).2) h.len h.lenF ht
  simp only [h0, bne_self_eq_false, Bool.false_eq_true, if_false, ne_eq, not_true_eq_false, ranges_s (show 60 < F by omega), Option.bind_some, Bool.not_not, rindex_s h]
  unfold stepC
  have hfor : ((e.Stamp.Source != 0) && (e.Stamp.Source != e.From)) = forE e := rfl
  rw [hfor]
  cases hbv : badV e with
  | true => simp [stepE, hbv]
  | false =>
   cases hfe : forE e with
   | true => simp [stepE, hbv, hfe]
   | false =>
    simp only [Bool.false_eq_true, if_false]
    by_cases h1 : e.Kind = 1
    ·have b1 : (e.Kind == 1) = true := by simp [h1]
     have hse : stepE l e = errN l e (placeB l e.Bag).isSome := by simp [stepE, hbv, hfe, h1]
     simp only [b1, if_true, hse]
     unfold q229q errN
     simp only [rindex_s h, Option.bind_some, hsealed, beq_iff_eq]
     by_cases hf0 : e.From = 0
     ·simp [hf0]
     ·simp only [hf0, if_false]
      cases hp : placeB l e.Bag with
      | some k =>
       have : decide ((k : Int) ≥ 0) = true := by rw [decide_eq_true_eq]; omega
       simp [this]
      | none =>
       have d0 : decide ((-1 : Int) ≥ 0) = false := by decide
       have hL := seal_L1 (e := e) h hl20 hc.1 e.Candidates [] F (inS l e.Seal) rfl hc.2
       have e0 : (([] : List Int).length : Int) = 0 := rfl
       rw [e0] at hL
       simp only [d0, Bool.false_eq_true, if_false, inS_cnt, hL, Option.bind_some, Option.isSome_none]
       cases (inS l e.Seal || e.Candidates.any (inP l)) with
       | true => simp
       | false =>
        simp only [Bool.false_eq_true, if_false]
        by_cases h20 : 20 ≤ l.length
        ·simp [h20]
        ·simp [h20, stepL, h1]
    ·have b1 : (e.Kind == 1) = false := by simp [h1]
     simp only [b1, Bool.false_eq_true, if_false]
     cases hp : placeB l e.Bag with
     | none =>
      have d0 : decide ((-1 : Int) < 0) = true := by decide
      have hse : stepE l e = 4 := by simp [stepE, hbv, hfe, h1, hp]
      simp [d0, hse]
     | some k =>
      obtain ⟨hk, hkb⟩ := placeB_get hp
      have d0 : decide ((k : Int) < 0) = false := by rw [decide_eq_false_iff_not]; omega
      have hse : stepE l e = errO l l[k] e := by simp [stepE, hbv, hfe, h1, hp, hk]
      have hst : stepL l e = l.set k (newB l[k] e) := by simp [stepL, h1, hp, hk]
      have ik : idx l (k : Int) = some l[k] := by rw [idx_some]; exact ⟨by omega, by simp [hk]⟩
      have hmk : l[k] ∈ l := List.getElem_mem hk
      obtain ⟨ho1, ho2⟩ := okR_len (hv.r _ hmk)
      have hkinds := kinds hbv
      have href : q172q F l l[k] e = some (errO l l[k] e) := by
       unfold q172q errO
       have hso : (l[k].Open || ((l[k].Holder != e.From) || (if (e.Kind == 2) = true then ((e.To == e.From) || ((e.Kind == 3) && (e.From != 0))) else ((e.Kind == 3) && (e.From != 0))))) = stO l[k] e := by
        unfold stO
        by_cases h2 : e.Kind = 2
        ·simp [h2]
        ·have b2 : (e.Kind == 2) = false := by simp [h2]
         simp [b2]
       rw [hso]
       cases stO l[k] e with
       | true => simp
       | false =>
        simp only [Bool.false_eq_true, if_false, hsealed, Option.bind_some, inS_cnt, last_idx ho2 (by omega)]
        by_cases h4 : e.Kind = 4
        ·simp only [h4, beq_self_eq_true, if_true, true_and]
         cases inS l e.Seal with
         | true => simp
         | false =>
          by_cases h3 : 300 ≤ l[k].Seals.length
          ·have : ((l[k].Seals.length : Int) == 300) = true := by rw [beq_iff_eq]; omega
           simp [this, h3]
          ·have : ((l[k].Seals.length : Int) == 300) = false := by rw [beq_eq_false_iff_ne]; omega
           simp [this, h3]
        ·have b4 : (e.Kind == 4) = false := by simp [h4]
         simp only [b4, Bool.false_eq_true, if_false, h4, false_and]
         obtain ⟨y, hy⟩ : ∃ y, l[k].Seals.getLast? = some y := ⟨_, List.getLast?_eq_some_getLast ho2⟩
         rw [hy, Option.bind_some]
         by_cases hye : y = e.Seal
         ·simp [hye]
         ·have : (y != e.Seal) = true := by simp [hye]
          simp [this, hye]
      have hJ : ∀ (n15 : Int) (b16 : Bool) (l17 l18 : List Int), q75q l (k : Int) l[k] n15 b16 l17 l18 = some (l.set k (GBag.mk l[k].Bag n15 b16 l17 l[k].Packed l18), 0) := fun n15 b16 l17 l18 => by
       unfold q75q
       rw [slc_take (by omega), Option.bind_some, app_nil (by simp; omega), Option.bind_some, app_of (by simp; omega), Option.bind_some, nxtN (by omega), slc_drop (by omega), Option.bind_some, app_of (by simp; omega), Option.bind_some, List.set_eq_take_append_cons_drop, if_pos hk]
       simp [List.append_assoc]
      simp only [d0, Bool.false_eq_true, if_false, ik, Option.bind_some, href, hse, hst]
      by_cases hz : errO l l[k] e = 0
      ·simp only [hz, bne_self_eq_false, Bool.false_eq_true, if_false, not_true_eq_false, hJ]
       unfold newB
       rcases hkinds with hk' | hk' | hk' | hk'
       ·exact absurd hk' h1
       ·simp [hk']
       ·simp [hk']
       ·have e4 : (e.Kind == 2) = false := by simp [hk']
        have e5 : (e.Kind == 3) = false := by simp [hk']
        have e6 : (e.Kind == 4) = true := by simp [hk']
        rw [app_nil (by omega), Option.bind_some, app_of (by simp; omega), Option.bind_some]
        simp only [e4, e5, e6, Bool.false_eq_true, if_false, if_true, show ¬ (e.Kind = 2) by omega, show ¬ (e.Kind = 3) by omega]
        simp [hk', hJ]
      ·have : (errO l l[k] e != 0) = true := by simp [hz]
       rw [if_pos this, if_pos hz]
 ·have : (checkC l != 0) = true := by simp [h0]
  simp [this, h0]
end Go.Sh
set_option linter.unusedVariables false
set_option linter.unusedSimpArgs false
namespace Go.Sh
open Go.L

end Go.Sh
set_option linter.unusedVariables false
set_option linter.unusedSimpArgs false
namespace Go.Sh
open Go.L

theorem rfold_skip {F : Nat} {u : Int} {c : List Gq0} {z : Int} (hb : c.length < 1000000) {l : List GBag} {r : List Gq2} : ∀ (s p : List Gq0) (n : Nat), c = p ++ s → s.length < n → (∀ e ∈ s, u < e.Stamp.Time) → q58q F u (c, z) n l (p.length : Int) r = some (l, r, 0) := by
 intro s
 induction s with
 | nil => intro p n hp hn hs; cases n with
  | zero => omega
  | succ n =>
   have : c = p := by simpa using hp
   subst this
   simp only [q58q, q92q, Int.lt_irrefl, decide_false, Bool.false_eq_true, if_false]
 | cons e s ih => intro p n hp hn hs; cases n with
  | zero => omega
  | succ n =>
   have hlen : p.length < 1000000 := by rw [hp] at hb; simp at hb; omega
   have d1 : decide ((p.length : Int) < (c.length : Int)) = true := by rw [hp]; exact dlt p e s
   have i1 : idx c (p.length : Int) = some e := by rw [hp]; exact idx_at p e s
   have d2 : decide (e.Stamp.Time > u) = true := by rw [decide_eq_true_eq]; exact hs e (by simp)
   simp only [q58q, q92q, d1, if_true, i1, Option.bind_some, d2]
   rw [nxt p e (by omega)]
   exact ih (p ++ [e]) n (by rw [hp]; simp) (by simpa using hn) (fun x hx => hs x (by simp [hx]))
theorem rfold_loop {F : Nat} {u : Int} {c : List Gq0} {z : Int} (hF : 400 < F) (hc : Short F c) (hb : c.length < 1000000) : ∀ (s p : List Gq0) (n : Nat) (l : List GBag) (r : List Gq2), c = p ++ s → s.length < n → Val l → r.length ≤ p.length → (s.Pairwise fun a b => a.Stamp.Time ≤ b.Stamp.Time) → q58q F u (c, z) n l (p.length : Int) r = some ((foldB (upTo u s) l r).1, (foldB (upTo u s) l r).2, 0) := by
 intro s
 induction s with
 | nil => intro p n l r hp hn hv hr hs; cases n with
  | zero => omega
  | succ n =>
   have : c = p := by simpa using hp
   subst this
   simp only [q58q, q92q, Int.lt_irrefl, decide_false, Bool.false_eq_true, if_false, upTo, List.takeWhile_nil, foldB]
 | cons e s ih => intro p n l r hp hn hv hr hs; cases n with
  | zero => omega
  | succ n =>
   by_cases hu : e.Stamp.Time ≤ u
   ·have hlen : p.length < 1000000 := by rw [hp] at hb; simp at hb; omega
    have d1 : decide ((p.length : Int) < (c.length : Int)) = true := by rw [hp]; exact dlt p e s
    have i1 : idx c (p.length : Int) = some e := by rw [hp]; exact idx_at p e s
    have hce := hc e (by rw [hp]; simp)
    have hs' := (List.pairwise_cons.1 hs).2
    have d2 : decide (e.Stamp.Time > u) = false := by simp; omega
    have hw : upTo u (e :: s) = e :: upTo u s := by unfold upTo; rw [List.takeWhile_cons_of_pos (by simpa using hu)]
    have hc0 : ¬ (checkC l ≠ 0) := by rw [check_val.2 hv]; simp
    simp only [q58q, q92q, d1, if_true, i1, Option.bind_some, d2, Bool.false_eq_true, if_false, rapply_s hF (hv.ok hF).toBShort hce, hc0, hw, foldB]
    unfold stepC
    by_cases h0 : stepE l e = 0
    ·simp only [h0, ne_eq, not_true_eq_false, if_false, bne_self_eq_false, Bool.false_eq_true]
     rw [nxt p e (by omega)]
     exact ih (p ++ [e]) n _ r (by rw [hp]; simp) (by simpa using hn) (step_val hv h0) (by simp; omega) hs'
    ·have hb0 : (stepE l e != 0) = true := by simp [h0]
     simp only [h0, ne_eq, not_false_eq_true, if_true, hb0]
     rw [app_of (by simp; omega), Option.bind_some, nxt p e (by omega)]
     exact ih (p ++ [e]) n l _ (by rw [hp]; simp) (by simpa using hn) hv (by simp; omega) hs'
   ·have hw : upTo u (e :: s) = [] := by unfold upTo; rw [List.takeWhile_cons_of_neg (by simpa using hu)]
    rw [hw]
    exact rfold_skip hb (e :: s) p (n + 1) hp hn fun x hx => by
     rcases List.mem_cons.1 hx with rfl | hx
     ·omega
     ·have := (List.pairwise_cons.1 hs).1 x hx; omega
theorem canonEv_time (l : List Gq0) : (canonEv (fun x : Gq0 => x.Stamp) l).1.Pairwise fun a b => a.Stamp.Time ≤ b.Stamp.Time := by
 unfold canonEv
 split
 ·simp
 ·exact (evL_is (fun x : Gq0 => x.Stamp) l).sorted.imp fun h => by rw [cmpSt_lt] at h; omega
theorem rfold_s {F : Nat} (hF : 400 < F) {ev : List Gq0} {u : Int} (hc : Short F ev) (hb : ev.length < 1000000) (hFe : ev.length < F) : q202q F ev u = some (foldC ev u) := by
 unfold q202q foldC
 rw [canonicalR_s hc hb hFe]
 simp only [Option.bind_some]
 have hle := canonEv_le (fun x : Gq0 => x.Stamp) ev
 have hti := canonEv_time ev
 have hmem : Short F (canonEv (fun x : Gq0 => x.Stamp) ev).1 := fun e he => hc e (canonEv_mem he)
 generalize canonEv (fun x : Gq0 => x.Stamp) ev = c at hle hmem hti
 by_cases h0 : c.2 = 0
 ·simp only [h0, bne_self_eq_false, Bool.false_eq_true, if_false, ne_eq, not_true_eq_false]
  have := rfold_loop (u := u) (z := c.2) hF hmem (by omega) c.1 [] F [] [] rfl (by omega) val_nil (by simp) hti
  exact this
 ·have : (c.2 != 0) = true := by simp [h0]
  simp [this, h0]
end Go.Sh
set_option linter.unusedVariables false
set_option linter.unusedSimpArgs false
namespace Go.Sh
open Go.L

def SmB (b : GBag) : Prop := b.Seals.length ≤ 301 ∧ b.Packed.length ≤ 61 ∧ b.Found.length ≤ 61
def SmL (l : List GBag) : Prop := l.length ≤ 30 ∧ ∀ b ∈ l, SmB b
theorem SmL.short {l : List GBag} (h : SmL l) : BShort 2000 l := ⟨by have := h.1; omega, by have := h.1; omega, fun b hb => by have := (h.2 b hb).1; omega, fun b hb => by have := (h.2 b hb).2.1; omega, fun b hb => by have := (h.2 b hb).2.2; omega⟩
theorem sm_set {l : List GBag} (h : SmL l) {k : Nat} {b : GBag} (hb : SmB b) : SmL (l.set k b) := ⟨by simpa using h.1, fun x hx => by
 rcases List.mem_or_eq_of_mem_set hx with h' | rfl
 ·exact h.2 x h'
 ·exact hb⟩
theorem val_len {l : List GBag} (h : Val l) : l.length ≤ 20 ∧ ∀ b ∈ l, b.Seals.length ≤ 300 ∧ b.Packed.length ≤ 60 ∧ b.Found.length ≤ 60 := ⟨h.len, fun b hb => by
 have h1 := (okR_len (h.r b hb)).1
 have h2 := h.s b hb
 unfold okS at h2
 rw [Bool.and_eq_true] at h2
 exact ⟨h1, srt_len h2.1, srt_len h2.2⟩⟩
theorem bags_s {F : Nat} (hF : 2000 ≤ F) {t : GTape} (h : Tp t) (p : Int) (hp : p ≤ 100) : ∃ l t', q200q F t p = some (l, t') ∧ Tp t' ∧ SmL l := by
 obtain ⟨ev, t2, c1, c2, c3, c4⟩ := bagEvents_s (F := F) h 10 0 (by omega) (by omega) (by omega) (by omega)
 unfold q200q
 have c1' : Gq4 F t 10 0 = some (ev, t2) := c1
 rw [c1']; simp only [Option.bind_some]
 rw [rfold_s (by omega) (c4.short (by omega)) (by omega) (by omega)]; simp only [Option.bind_some]
 have hv := foldC_val (ev := ev) (u := 100)
 obtain ⟨v1, v2⟩ := val_len hv
 generalize (foldC ev 100).1 = l at hv v1 v2
 have hsm : SmL l := ⟨by omega, fun b hb => by have := v2 b hb; unfold SmB; omega⟩
 have key : ∃ (z : Bool) (L : List Int) (A : Int), (if (p == 0) = true then some (true, t2.L, t2.At) else (Gq19 t2 p).bind fun r8 => if (!r8.1) = true then some (true, r8.2.L, r8.2.At) else some (((l.length : Int) == 0), r8.2.L, r8.2.At)) = some (z, L, A) ∧ Tp (GTape.mk L A) ∧ (z = false → l ≠ []) := by
  by_cases h0 : p = 0
  ·exact ⟨true, t2.L, t2.At, by simp [h0], tp_mk c2, fun h => by cases h⟩
  ·obtain ⟨b, t3, e1, e2⟩ := one_s c2 p (by omega)
   have hb0 : (p == 0) = false := by simp [h0]
   cases b with
   | true => exact ⟨((l.length : Int) == 0), t3.L, t3.At, by simp [hb0, e1], tp_mk e2, fun h => by
     intro hl; subst hl; simp at h⟩
   | false => exact ⟨true, t3.L, t3.At, by simp [hb0, e1], tp_mk e2, fun h => by cases h⟩
 obtain ⟨z, L, A, k1, k2, k3⟩ := key
 rw [k1]; simp only [Option.bind_some]
 cases z with
 | true => exact ⟨l, _, by simp only [if_true], k2, hsm⟩
 | false =>
  have hne := k3 rfl
  have hpos : 0 < l.length := List.length_pos_iff.2 hne
  simp only [Bool.false_eq_true, if_false]
  rw [app_nil (by omega), Option.bind_some]
  obtain ⟨i, t3, e1, e2, e3, e4, _⟩ := next_s k2 (l.length : Int) (by omega)
  have e5 := e4 (by omega)
  have hi : i.toNat < l.length := by omega
  have ii : idx l i = some l[i.toNat] := by rw [idx_some]; exact ⟨e3, by simp [hi]⟩
  obtain ⟨w, t4, f1, f2, _⟩ := next_s e2 8 (by omega)
  simp only [e1, ii, f1, Option.bind_some]
  have hb := v2 l[i.toNat] (List.getElem_mem hi)
  generalize l[i.toNat] = b at hb
  have hset : ∀ b', SmB b' → SmL (l.set i.toNat b') := fun b' h' => sm_set hsm h'
  by_cases w0 : w = 0
  ·obtain ⟨x, t5, g1, g2, _⟩ := pick_s f2 [(-1), 0, 1, 10000] (by simp) (by simp)
   simp only [w0, beq_self_eq_true, if_true, g1, Option.bind_some]
   exact ⟨_, _, rfl, g2, hset _ (by unfold SmB; simp only; omega)⟩
  ·have b0 : (w == 0) = false := by simp [w0]
   simp only [b0, Bool.false_eq_true, if_false]
   by_cases w1 : w = 1
   ·obtain ⟨x, t5, g1, g2, _⟩ := pick_s f2 [(-1), 0, 1, 100] (by simp) (by simp)
    simp only [w1, beq_self_eq_true, if_true, g1, Option.bind_some]
    exact ⟨_, _, rfl, g2, hset _ (by unfold SmB; simp only; omega)⟩
   ·have b1 : (w == 1) = false := by simp [w1]
    simp only [b1, Bool.false_eq_true, if_false]
    by_cases w2 : w = 2
    ·simp only [w2, beq_self_eq_true, if_true, Option.bind_some]
     exact ⟨_, _, rfl, f2, hset _ (by unfold SmB; simp only; omega)⟩
    ·have b2 : (w == 2) = false := by simp [w2]
     simp only [b2, Bool.false_eq_true, if_false]
     by_cases w3 : w = 3
     ·obtain ⟨x, t5, g1, g2, _⟩ := pick_s f2 [0, 10, (-1), 1000001] (by simp) (by simp)
      simp only [w3, beq_self_eq_true, if_true, g1, Option.bind_some]
      rw [app_of (by simp; omega)]; simp only [Option.bind_some]
      exact ⟨_, _, rfl, g2, hset _ (by unfold SmB; simp; omega)⟩
     ·have b3 : (w == 3) = false := by simp [w3]
      simp only [b3, Bool.false_eq_true, if_false]
      by_cases w4 : w = 4
      ·simp only [w4, beq_self_eq_true, if_true, Option.bind_some]
       exact ⟨_, _, rfl, f2, hset _ (by unfold SmB; simp; omega)⟩
      ·have b4 : (w == 4) = false := by simp [w4]
       simp only [b4, Bool.false_eq_true, if_false]
       by_cases w5 : w = 5
       ·obtain ⟨x, t5, g1, g2, _⟩ := pick_s f2 [0, 8, 9999, 10000] (by simp) (by simp)
        simp only [w5, beq_self_eq_true, if_true, g1, Option.bind_some]
        rw [app_of (by simp; omega)]; simp only [Option.bind_some]
        exact ⟨_, _, rfl, g2, hset _ (by unfold SmB; simp; omega)⟩
       ·have b5 : (w == 5) = false := by simp [w5]
        simp only [b5, Bool.false_eq_true, if_false]
        by_cases w6 : w = 6
        ·obtain ⟨x, t5, g1, g2, _⟩ := pick_s f2 [0, 8, 9999, 10000] (by simp) (by simp)
         simp only [w6, beq_self_eq_true, if_true, g1, Option.bind_some]
         rw [app_of (by simp; omega)]; simp only [Option.bind_some]
         exact ⟨_, _, rfl, g2, hset _ (by unfold SmB; simp; omega)⟩
        ·have b6 : (w == 6) = false := by simp [w6]
         simp only [b6, Bool.false_eq_true, if_false]
         rw [app_of (by simp; omega), Option.bind_some]
         have hbs : SmB b := by unfold SmB; omega
         have hsm2 : SmL (l ++ [b]) := ⟨by simp; omega, fun x hx => by
          rcases List.mem_append.1 hx with h' | h'
          ·exact hsm.2 x h'
          ·rw [List.mem_singleton] at h'; subst h'; exact hbs⟩
         have ij : ∃ y, idx (l ++ [b]) i = some y := ⟨(l ++ [b])[i.toNat]'(by simp; omega), by rw [idx_some]; exact ⟨e3, by rw [List.getElem?_eq_getElem]⟩⟩
         obtain ⟨y, hy⟩ := ij
         rw [hy, Option.bind_some]
         exact ⟨_, _, rfl, f2, sm_set hsm2 hbs⟩
end Go.Sh
set_option linter.unusedVariables false
set_option linter.unusedSimpArgs false
namespace Go.Sh
open Go.L

theorem tints_s {F : Nat} {t : GTape} (h : Tp t) (m : Nat) (a b : Int) (h1 : -1000 ≤ a) (h2 : a ≤ b) (h3 : b ≤ 1000000) (hm : m ≤ 100) (hF : m < F) : ∃ l t', Gq13 F t m a b = some (l, t') ∧ Tp t' ∧ l.length ≤ m := by
 have key : ∀ n (k : Int) (L : List Int) (A : Int) (l : List Int), (0 ≤ k ∧ (l.length : Int) + k ≤ m ∧ Tp (GTape.mk L A)) → k.toNat < n → ∃ r, Gq14 a b n k L A l = some r ∧ (Tp r.2 ∧ r.1.length ≤ m) := by
  refine loop4 (L := Gq14 a b) (B := Gq15 a b) (fun _ => rfl) _ (fun (k : Int) (_ : List Int) (_ : Int) (_ : List Int) => k.toNat) _ ?_
  rintro rec k L A l ⟨hk, hl, ht⟩ hrec
  unfold Gq15
  by_cases hk0 : k > 0
  ·obtain ⟨x, t1, a1, a2, _⟩ := range_s ht a b (by omega) (by omega) (by omega)
   simp only [hk0, decide_true, if_true, a1, Option.bind_some]
   rw [app_of (by simp; omega), Option.bind_some, i64_of (by omega) (by omega)]
   exact hrec _ _ _ _ ⟨by omega, by simp; omega, tp_mk a2⟩ (by omega)
  ·simp only [hk0, decide_false, Bool.false_eq_true, if_false]
   exact ⟨_, rfl, ht, by simp only; omega⟩
 obtain ⟨x, t1, a1, a2, a3, a4⟩ := range_s h 0 m (by omega) (by omega) (by omega)
 obtain ⟨⟨l, t'⟩, h1, h2, h3⟩ := key F x t1.L t1.At [] ⟨a3, by simp; omega, tp_mk a2⟩ (by omega)
 exact ⟨l, t', by simp only [Gq13, a1, Option.bind_some]; exact h1, h2, h3⟩
theorem has_loopW (v : Int) : ∀ (s p : List Int) (n : Nat), (p ++ s).length < 10000000 → s.length < n → q65q (p ++ s) v n (p.length : Int) = some (decide (v ∈ s)) := by
 intro s
 induction s with
 | nil => intro p n hb hn; cases n with
  | zero => omega
  | succ n => simp only [q65q, q107q, dge, Bool.false_eq_true, if_false, List.not_mem_nil, decide_false]
 | cons x s ih => intro p n hb hn; cases n with
  | zero => omega
  | succ n =>
   have hl : p.length < 10000000 := by simp at hb; omega
   have h1 := ih (p ++ [x]) n (by simpa using hb) (by simpa using hn)
   simp only [q65q, q107q, dlt, if_true, idx_at, Option.bind_some]
   by_cases hv : x = v
   ·simp [hv]
   ·have hb' : (x == v) = false := by simp [hv]
    rw [nxt p x (by omega), snoc, h1]
    simp [hb', Ne.symm hv]
theorem has_sW {F : Nat} {l : List Int} {v : Int} (hb : l.length < 10000000) (hF : l.length < F) : ref06_Has F l v = some (decide (v ∈ l)) := has_loopW v l [] F (by simpa using hb) hF
theorem index_loopW (v : Int) : ∀ (s p : List Int) (n : Nat), (p ++ s).length < 10000000 → s.length < n → ∃ r, q3q (p ++ s) v n (p.length : Int) = some r ∧ (r ≥ 0 ↔ v ∈ s) := by
 intro s
 induction s with
 | nil => intro p n hb hn; cases n with
  | zero => omega
  | succ n => exact ⟨-1, by simp only [q3q, q17q, dge, Bool.false_eq_true, if_false], by simp⟩
 | cons x s ih => intro p n hb hn; cases n with
  | zero => omega
  | succ n =>
   have hl : p.length < 10000000 := by simp at hb; omega
   obtain ⟨r, h1, h2⟩ := ih (p ++ [x]) n (by simpa using hb) (by simpa using hn)
   simp only [q3q, q17q, dlt, if_true, idx_at, Option.bind_some]
   by_cases hv : v = x
   ·exact ⟨(p.length : Int), by simp [hv], by simp [hv] <;> omega⟩
   ·have hb' : (v == x) = false := by simp [hv]
    rw [nxt p x (by omega), snoc, h1]
    exact ⟨r, by simp [hb'], by rw [h2]; simp [hv]⟩
theorem contains_sW {F : Nat} {l : List Int} {v : Int} (hb : l.length < 10000000) (hF : l.length < F) : q13q F l v = some (decide (v ∈ l)) := by
 unfold q13q q99q
 obtain ⟨r, h1, h2⟩ := index_loopW v l [] F (by simpa using hb) hF
 have h1' : q3q l v F 0 = some r := h1
 rw [h1']
 simp only [Option.bind_some]
 congr 1
 rw [decide_eq_decide]; exact h2
theorem equal_loopW : ∀ (s s' p : List Int) (q : List Int) (n : Nat), p.length = q.length → s.length = s'.length → (p ++ s).length < 10000000 → s.length < n → q2q (p ++ s) (q ++ s') n (p.length : Int) = some (decide (s = s')) := by
 intro s
 induction s with
 | nil => intro s' p q n hpq hs hb hn; cases n with
  | zero => omega
  | succ n =>
   have : s' = [] := List.eq_nil_of_length_eq_zero (by simpa using hs.symm)
   subst this
   simp only [q2q, q9q, dge, Bool.false_eq_true, if_false, decide_true]
 | cons x s ih => intro s' p q n hpq hs hb hn; cases n with
  | zero => omega
  | succ n =>
   cases s' with
   | nil => simp at hs
   | cons y s' =>
    have hl : p.length < 10000000 := by simp at hb; omega
    have i2 : idx (q ++ y :: s') (p.length : Int) = some y := by rw [hpq]; exact idx_at q y s'
    simp only [q2q, q9q, dlt, if_true, idx_at, i2, Option.bind_some]
    by_cases hxy : x = y
    ·subst hxy
     have := ih s' (p ++ [x]) (q ++ [x]) n (by simp [hpq]) (by simpa using hs) (by simpa using hb) (by simpa using hn)
     simp only [bne_self_eq_false, Bool.false_eq_true, if_false]
     rw [nxt p x (by omega), snoc p, snoc q, this]
     simp
    ·have : (x != y) = true := by simp [hxy]
     simp [this, hxy]
theorem equal_sW {F : Nat} {a b : List Int} (hb : a.length < 10000000) (hF : a.length < F) : q16q F a b = some (decide (a = b)) := by
 unfold q16q
 by_cases h : a.length = b.length
 ·have h1 : ((a.length : Int) != (b.length : Int)) = false := by simp [h]
  simp only [h1, Bool.false_eq_true, if_false]
  exact equal_loopW a b [] [] F rfl h (by simpa using hb) hF
 ·have h1 : ((a.length : Int) != (b.length : Int)) = true := by simp; omega
  have h2 : a ≠ b := fun hab => h (by rw [hab])
  simp [h1, h2]
theorem ints_sW {F : Nat} {a b : List Int} (hb : a.length < 10000000) (hF : a.length < F) : q36q F a b = some (decide (a = b)) := by rw [ints_eq]; exact equal_sW hb hF
theorem cloneBag_sW {b : GBag} (h1 : b.Seals.length < 10000000) (h2 : b.Packed.length < 10000000) (h3 : b.Found.length < 10000000) : q53q b = some b := by
 unfold q53q
 rw [app_of (by simp; omega), Option.bind_some, app_of (by simp; omega), Option.bind_some, app_of (by simp; omega)]
 simp
theorem sameBag_sW {F : Nat} {a b : GBag} (h1 : a.Seals.length < 10000000 ∧ a.Seals.length < F) (h2 : a.Packed.length < 10000000 ∧ a.Packed.length < F) (h3 : a.Found.length < 10000000 ∧ a.Found.length < F) : q170q F a b = some (decide (a = b)) := by
 unfold q170q
 rw [ints_sW h1.1 h1.2, ints_sW h2.1 h2.2, ints_sW h3.1 h3.2]
 obtain ⟨g, ho, o, s, p, f⟩ := a
 obtain ⟨g', ho', o', s', p', f'⟩ := b
 simp only [GBag.mk.injEq, beq_iff_eq, Option.bind_some, decide_eq_true_eq]
 by_cases e1 : g = g'
 ·by_cases e2 : ho = ho'
  ·by_cases e3 : o = o'
   ·by_cases e4 : s = s'
    ·by_cases e5 : p = p'
     ·simp [e1, e2, e3, e4, e5]
     ·simp [e5]
    ·simp [e4]
   ·simp [e3]
  ·simp [e2]
 ·simp [e1]
structure BW (F : Nat) (l : List GBag) : Prop where
 len : l.length < 1000000
 lenF : l.length < F
 sl : ∀ b ∈ l, b.Seals.length < 10000000 ∧ b.Seals.length < F
 pk : ∀ b ∈ l, b.Packed.length < 10000000 ∧ b.Packed.length < F
 fd : ∀ b ∈ l, b.Found.length < 10000000 ∧ b.Found.length < F
theorem BW.acc {F : Nat} {l : List GBag} (h : BW F l) : AShort F l := ⟨h.len, h.lenF, fun b hb => ⟨by have := (h.pk b hb).1; omega, (h.pk b hb).2⟩, fun b hb => ⟨by have := (h.fd b hb).1; omega, (h.fd b hb).2⟩⟩
theorem where_L2 {F : Nat} {l : List GBag} (h : BW F l) (c : Int) : ∀ (s p : List GBag) (n : Nat) (w : Int), l = p ++ s → s.length < n → q78q F l c n w (p.length : Int) = some (if (s.any fun b => b.Open && decide (c ∈ b.Packed)) = true then 3 else if inP s c = true then 1 else w) := by
 intro s
 induction s with
 | nil => intro p n w hp hn; cases n with
  | zero => omega
  | succ n =>
   have : l = p := by simpa using hp
   subst this
   simp [q78q, q154q, inP]
 | cons x s ih => intro p n w hp hn; cases n with
  | zero => omega
  | succ n =>
   have hlen : p.length < 1000000 := by have := h.len; rw [hp] at this; simp at this; omega
   have d1 : decide ((p.length : Int) < (l.length : Int)) = true := by rw [hp]; exact dlt p x s
   have i1 : idx l (p.length : Int) = some x := by rw [hp]; exact idx_at p x s
   obtain ⟨k1, k2⟩ := h.pk x (by rw [hp]; simp)
   simp only [q78q, q154q, d1, if_true, i1, Option.bind_some, has_sW k1 k2]
   rw [nxt p x (by omega), ih (p ++ [x]) n _ (by rw [hp]; simp) (by simpa using hn), ih (p ++ [x]) n _ (by rw [hp]; simp) (by simpa using hn)]
   by_cases hc : c ∈ x.Packed
   ·cases ho : x.Open with
    | true => simp [hc, ho]
    | false => simp [hc, ho, inP]
   ·simp [hc, inP]
theorem where_L1 {F : Nat} {l : List GBag} (h : BW F l) (c : Int) : ∀ (s p : List GBag) (n : Nat), l = p ++ s → s.length < n → q111q F l c n (p.length : Int) = if (s.any fun b => decide (c ∈ b.Found)) = true then some 2 else q78q F l c F 0 0 := by
 intro s
 induction s with
 | nil => intro p n hp hn; cases n with
  | zero => omega
  | succ n =>
   have : l = p := by simpa using hp
   subst this
   simp [q111q, q153q]
 | cons x s ih => intro p n hp hn; cases n with
  | zero => omega
  | succ n =>
   have hlen : p.length < 1000000 := by have := h.len; rw [hp] at this; simp at this; omega
   have d1 : decide ((p.length : Int) < (l.length : Int)) = true := by rw [hp]; exact dlt p x s
   have i1 : idx l (p.length : Int) = some x := by rw [hp]; exact idx_at p x s
   obtain ⟨k1, k2⟩ := h.fd x (by rw [hp]; simp)
   simp only [q111q, q153q, d1, if_true, i1, Option.bind_some, has_sW k1 k2]
   rw [nxt p x (by omega), ih (p ++ [x]) n (by rw [hp]; simp) (by simpa using hn)]
   by_cases hc : c ∈ x.Found
   ·simp [hc]
   ·simp [hc]
theorem where_s {F : Nat} {l : List GBag} (h : BW F l) (c : Int) : q195q F l c = some (whereC l c) := by
 have h1 := where_L1 h c l [] F rfl h.lenF
 have h2 := where_L2 h c l [] F 0 rfl h.lenF
 have e0 : (([] : List GBag).length : Int) = 0 := rfl
 rw [e0] at h1 h2
 unfold q195q whereC
 rw [h1, h2]
 cases (l.any fun b => decide (c ∈ b.Found)) <;> rfl
theorem whereC_vals (l : List GBag) (c : Int) : whereC l c = 0 ∨ whereC l c = 1 ∨ whereC l c = 2 ∨ whereC l c = 3 := by
 unfold whereC
 split
 ·simp
 ·split
  ·simp
  ·split <;> simp
theorem accC_snoc (l : List GBag) (p : List Int) (x : Int) : accC l (p ++ [x]) = ((accC l p).1 ++ [x].filter (fun c => whereC l c == 0), (accC l p).2.1 ++ [x].filter (fun c => whereC l c == 1), (accC l p).2.2.1 ++ [x].filter (fun c => whereC l c == 2), (accC l p).2.2.2 ++ [x].filter (fun c => whereC l c == 3)) := by
 simp only [accC, List.filter_append]
theorem racc_L1 {F : Nat} {l : List GBag} (h : BW F l) {xs : List Int} (hb : xs.length < 1000000) : ∀ (s p : List Int) (n : Nat), xs = p ++ s → s.length < n → q67q F l xs n (p.length : Int) (accC l p).1 (accC l p).2.1 (accC l p).2.2.1 (accC l p).2.2.2 = some (accC l xs) := by
 intro s
 induction s with
 | nil => intro p n hp hn; cases n with
  | zero => omega
  | succ n =>
   have : xs = p := by simpa using hp
   subst this
   simp [q67q, q115q, idx]
 | cons x s ih => intro p n hp hn; cases n with
  | zero => omega
  | succ n =>
   have hlen : p.length < 1000000 := by rw [hp] at hb; simp at hb; omega
   have d1 : decide ((p.length : Int) < (xs.length : Int)) = true := by rw [hp]; exact dlt p x s
   have i1 : idx xs (p.length : Int) = some x := by rw [hp]; exact idx_at p x s
   have l0 : (accC l p).1.length ≤ p.length := List.length_filter_le _ _
   have l1 : (accC l p).2.1.length ≤ p.length := List.length_filter_le _ _
   have l2 : (accC l p).2.2.1.length ≤ p.length := List.length_filter_le _ _
   have l3 : (accC l p).2.2.2.length ≤ p.length := List.length_filter_le _ _
   have hrec := ih (p ++ [x]) n (by rw [hp]; simp) (by simpa using hn)
   rw [accC_snoc] at hrec
   simp only [q67q, q115q, d1, if_true, i1, Option.bind_some, where_s h]
   rw [nxt p x (by omega)]
   rw [app_of (show (accC l p).1.length + [x].length ≤ 1099511627776 by simp; omega), app_of (show (accC l p).2.1.length + [x].length ≤ 1099511627776 by simp; omega), app_of (show (accC l p).2.2.1.length + [x].length ≤ 1099511627776 by simp; omega), app_of (show (accC l p).2.2.2.length + [x].length ≤ 1099511627776 by simp; omega)]
   simp only [Option.bind_some]
   rcases whereC_vals l x with hw | hw | hw | hw <;> simp [hw, List.filter_cons] at hrec ⊢ <;> exact hrec
theorem raccount_s {F : Nat} {l : List GBag} {xs : List Int} (h : BW F l) (hb : xs.length < 1000000) (hF : xs.length < F) : q196q F l xs = some (accC l xs) := racc_L1 h hb xs [] F rfl hF
def findC (l : List GBag) (c : Int) : GBag × Bool := match l.find? fun b => decide (c ∈ b.Packed) with | some b => (b, true) | .none => (GBag.mk 0 0 false [] [] [], false)
theorem find_L1 {F : Nat} {l : List GBag} (h : BW F l) (c : Int) : ∀ (s p : List GBag) (n : Nat), l = p ++ s → s.length < n → q85q F l c n (p.length : Int) = some (findC s c) ∧ q129q F l c n (p.length : Int) = some (findC s c) := by
 intro s
 induction s with
 | nil => intro p n hp hn; cases n with
  | zero => omega
  | succ n =>
   have : l = p := by simpa using hp
   subst this
   simp [q85q, q134q, q129q, q161q, findC]
 | cons x s ih => intro p n hp hn; cases n with
  | zero => omega
  | succ n =>
   have hlen : p.length < 1000000 := by have := h.len; rw [hp] at this; simp at this; omega
   have d1 : decide ((p.length : Int) < (l.length : Int)) = true := by rw [hp]; exact dlt p x s
   have i1 : idx l (p.length : Int) = some x := by rw [hp]; exact idx_at p x s
   have hm : x ∈ l := by rw [hp]; simp
   obtain ⟨k1, k2⟩ := h.pk x hm
   obtain ⟨r1, r2⟩ := ih (p ++ [x]) n (by rw [hp]; simp) (by simpa using hn)
   simp only [q85q, q134q, q129q, q161q, d1, if_true, i1, Option.bind_some, has_sW k1 k2, contains_sW k1 k2, cloneBag_sW (h.sl x hm).1 k1 (h.fd x hm).1]
   rw [nxt p x (by omega), r1, r2]
   by_cases hc : c ∈ x.Packed
   ·simp [hc, findC]
   ·simp [hc, findC]
theorem find_s {F : Nat} {l : List GBag} (h : BW F l) (c : Int) : q198q F l c = some (findC l c) := (find_L1 h c l [] F rfl h.lenF).1
theorem rfind_s {F : Nat} {l : List GBag} (h : BW F l) (c : Int) : q228q F l c = some (findC l c) := (find_L1 h c l [] F rfl h.lenF).2
theorem findC_short {F : Nat} (hF : 0 < F) {l : List GBag} (h : BW F l) (c : Int) : ((findC l c).1.Seals.length < 10000000 ∧ (findC l c).1.Seals.length < F) ∧ ((findC l c).1.Packed.length < 10000000 ∧ (findC l c).1.Packed.length < F) ∧ ((findC l c).1.Found.length < 10000000 ∧ (findC l c).1.Found.length < F) := by
 unfold findC
 cases hf : l.find? fun b => decide (c ∈ b.Packed) with
 | none => simp; omega
 | some b =>
  have hm := List.mem_of_find?_eq_some hf
  exact ⟨h.sl b hm, h.pk b hm, h.fd b hm⟩
theorem accC_len (l : List GBag) (xs : List Int) : (accC l xs).1.length ≤ xs.length ∧ (accC l xs).2.1.length ≤ xs.length ∧ (accC l xs).2.2.1.length ≤ xs.length ∧ (accC l xs).2.2.2.length ≤ xs.length := ⟨List.length_filter_le _ _, List.length_filter_le _ _, List.length_filter_le _ _, List.length_filter_le _ _⟩
theorem accounts_L2 {F : Nat} (hF : 0 < F) {rec1 : (List GBag) → (List Int) → Int → Option Bool} {r5 : List GBag × GTape} {r6 : List Int × GTape} {l : List GBag} {xs : List Int} {n9 : Int} (h : BW F l) (hb : xs.length < 1000000) : ∀ (s p : List Int) (n : Nat), xs = p ++ s → s.length < n → q21q rec1 F r5 r6 l xs n9 n (p.length : Int) = rec1 r5.1 r6.1 (i64 (n9 + 1)) := by
 intro s
 induction s with
 | nil => intro p n hp hn; cases n with
  | zero => omega
  | succ n =>
   have : xs = p := by simpa using hp
   subst this
   simp [q21q, q46q]
 | cons x s ih => intro p n hp hn; cases n with
  | zero => omega
  | succ n =>
   have hlen : p.length < 1000000 := by rw [hp] at hb; simp at hb; omega
   have d1 : decide ((p.length : Int) < (xs.length : Int)) = true := by rw [hp]; exact dlt p x s
   have i1 : idx xs (p.length : Int) = some x := by rw [hp]; exact idx_at p x s
   obtain ⟨q1, q2, q3⟩ := findC_short hF h x
   simp only [q21q, q46q, d1, if_true, i1, Option.bind_some, find_s h, rfind_s h, sameBag_sW q1 q2 q3, decide_true, Bool.not_true, Bool.false_eq_true, if_false, beq_self_eq_true]
   rw [nxt p x (by omega)]
   exact ih (p ++ [x]) n (by rw [hp]; simp) (by simpa using hn)
theorem accounts_L1 {F : Nat} (hF : 2000 ≤ F) {r5 : List GBag × GTape} {r6 : List Int × GTape} (h5 : BW F r5.1) (h6 : r6.1.length < 1000) : ∀ (d k n : Nat) (l : List GBag) (xs : List Int), k + d = 2 → d < n → BW F l → xs.length < 1000 → q10q F r5 r6 n l xs (k : Int) = some true := by
 intro d
 induction d with
 | zero => intro k n l xs hk hn hl hx; cases n with
  | zero => omega
  | succ n =>
   have d1 : decide ((k : Int) < 2) = false := by rw [decide_eq_false_iff_not]; omega
   simp only [q10q, q45q, d1, Bool.false_eq_true, if_false, awake_s hF, Option.bind_some]
 | succ d ih => intro k n l xs hk hn hl hx; cases n with
  | zero => omega
  | succ n =>
   have d1 : decide ((k : Int) < 2) = true := by rw [decide_eq_true_eq]; omega
   obtain ⟨a0, a1, a2, a3⟩ := accC_len l xs
   simp only [q10q, q45q, d1, if_true, account_s hl.acc (show xs.length < 1000000 by omega) (show xs.length < F by omega), raccount_s hl (show xs.length < 1000000 by omega) (show xs.length < F by omega), Option.bind_some, ints_s (show (accC l xs).1.length < 1000000 by omega) (show (accC l xs).1.length < F by omega), ints_s (show (accC l xs).2.1.length < 1000000 by omega) (show (accC l xs).2.1.length < F by omega), ints_s (show (accC l xs).2.2.1.length < 1000000 by omega) (show (accC l xs).2.2.1.length < F by omega), ints_s (show (accC l xs).2.2.2.length < 1000000 by omega) (show (accC l xs).2.2.2.length < F by omega), decide_true, Bool.not_true, Bool.false_eq_true, if_false]
   have := accounts_L2 (F := F) (by omega) (rec1 := q10q F r5 r6 n) (r5 := r5) (r6 := r6) (n9 := (k : Int)) hl (show xs.length < 1000000 by omega) xs [] F rfl (by omega)
   have e0 : (([] : List Int).length : Int) = 0 := rfl
   rw [e0] at this
   rw [this, nxtN (by omega)]
   exact ih (k + 1) n _ _ (by omega) (by omega) h5 h6
theorem law_CustodyAccounts (l : List GBag) (xs t : List Int) (h : ∀ b ∈ l, b.Seals.length ≤ 1048576 ∧ b.Packed.length ≤ 1048576 ∧ b.Found.length ≤ 1048576) : ∃ F, q123q F l xs t = some true := by
 refine ⟨2000000, ?_⟩
 unfold q123q
 by_cases hbig : 20 < l.length ∨ 30 < xs.length
 ·have : (decide ((l.length : Int) > 20) || decide ((xs.length : Int) > 30)) = true := by
   rcases hbig with h | h
   ·simp; omega
   ·simp; omega
  simp only [this, if_true]
 ·have : (decide ((l.length : Int) > 20) || decide ((xs.length : Int) > 30)) = false := by simp; omega
  simp only [this, Bool.false_eq_true, if_false]
  obtain ⟨t0, a1, a2⟩ := new_s t
  obtain ⟨m, t2, b1, b2, b3⟩ := bags_s (F := 2000000) (by omega) a2 5 (by omega)
  obtain ⟨u, t3, c1, c2, c3⟩ := tints_s (F := 2000000) b2 8 0 10 (by omega) (by omega) (by omega) (by omega) (by omega)
  have c1' : Gq13 2000000 t2 8 0 10 = some (u, t3) := c1
  rw [a1]; simp only [Option.bind_some]
  rw [b1]; simp only [Option.bind_some]
  rw [c1']; simp only [Option.bind_some]
  have h5 := b3.short
  have hl : BW 2000000 l := ⟨by omega, by omega, fun b hb => by have := (h b hb).1; omega, fun b hb => by have := (h b hb).2.1; omega, fun b hb => by have := (h b hb).2.2; omega⟩
  have hm : BW 2000000 m := ⟨h5.len, by have := h5.lenF; omega, fun b hb => by have := h5.sl b hb; omega, fun b hb => by have := h5.pk b hb; omega, fun b hb => by have := h5.fd b hb; omega⟩
  exact accounts_L1 (F := 2000000) (by omega) (r5 := (m, t2)) (r6 := (u, t3)) hm (by simp only; omega) 2 0 2000000 l xs rfl (by omega) hl (by omega)
end Go.Sh
