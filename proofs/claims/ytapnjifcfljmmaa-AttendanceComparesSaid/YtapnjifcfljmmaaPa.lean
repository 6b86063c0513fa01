/- Plain laws, part 1: words of lists and numbers, loops, comparisons. -/
import Derived.Test.YtapnjifcfljmmaaSh
set_option linter.unusedVariables false
set_option linter.unusedSimpArgs false
namespace Go.Sh
open Go.L

theorem i64_of {n : Int} (h1 : -9223372036854775808 ≤ n) (h2 : n ≤ 9223372036854775807) : i64 n = n := by
  show IntKind.i64.wrap n = n
  rw [IntKind.wrap_i64]; omega
theorem idx_nat {α : Type} (l : List α) (i : Nat) : idx l (i : Int) = l[i]? := by
  unfold idx; simp
theorem idx_some {α : Type} {l : List α} {i : Int} {x : α} : idx l i = some x ↔ 0 ≤ i ∧ l[i.toNat]? = some x := by
  unfold idx; split
  · simp_all
  · constructor
    · intro h; cases h
    · intro h; omega
theorem idx_lt {α : Type} {l : List α} {i : Nat} (h : i < l.length) : idx l (i : Int) = some l[i] := by
  rw [idx_nat]; simp [h]
theorem idx_at {α : Type} (p : List α) (x : α) (s : List α) : idx (p ++ x :: s) (p.length : Int) = some x := by
  rw [idx_nat]; simp
theorem app_of {α : Type} {xs ys : List α} (h : xs.length + ys.length ≤ 1099511627776) : app xs ys = some (xs ++ ys) := by unfold app; rw [if_pos h]
theorem slc_take {α : Type} {xs : List α} {n : Nat} (h : n ≤ xs.length) : slc xs 0 n = some (xs.take n) := by
  unfold slc; rw [if_pos ⟨by omega, by omega, by omega⟩]; simp
theorem slc_drop {α : Type} {xs : List α} {n : Nat} (h : n ≤ xs.length) : slc xs n (xs.length : Int) = some (xs.drop n) := by
  unfold slc; rw [if_pos ⟨by omega, by omega, by omega⟩]; simp
theorem mkl_of {α : Type} {z : α} {n : Nat} (h : n ≤ 1000000) : mkl z (n : Int) = some (List.replicate n z) := by
  unfold mkl; rw [if_pos ⟨by omega, by omega⟩]; simp
theorem dlt {α : Type} (p : List α) (x : α) (s : List α) : decide ((p.length : Int) < ((p ++ x :: s).length : Int)) = true := by simp; omega
theorem dge {α : Type} (p : List α) : decide ((p.length : Int) < ((p ++ []).length : Int)) = false := by simp
theorem nxt {α : Type} (p : List α) (x : α) (h : p.length < 1000000000) : i64 ((p.length : Int) + 1) = ((p ++ [x]).length : Int) := by
  rw [i64_of (by omega) (by omega)]; simp
theorem snoc {α : Type} (p : List α) (x : α) (s : List α) : p ++ x :: s = (p ++ [x]) ++ s := by simp

/- loops: an invariant, a measure, what is to hold of the result -/
theorem loop0 {R : Type} {L : Nat → Option R} {B : Option R → Option R} (hL : ∀ n, L (n + 1) = B (L n)) : True := trivial
theorem loop1 {α R : Type} {L : Nat → α → Option R} {B : (α → Option R) → α → Option R} (hL : ∀ n, L (n + 1) = B (L n)) (I : α → Prop) (μ : α → Nat) (Post : R → Prop)
    (step : ∀ rec a, I a → (∀ a', I a' → μ a' < μ a → ∃ r, rec a' = some r ∧ Post r) → ∃ r, B rec a = some r ∧ Post r) : ∀ n a, I a → μ a < n → ∃ r, L n a = some r ∧ Post r := by
  intro n
  induction n with
  | zero => intro a _ h; omega
  | succ n ih => intro a hI h; rw [hL]; exact step _ a hI fun a' h1 h2 => ih a' h1 (by omega)
theorem loop2 {α β R : Type} {L : Nat → α → β → Option R} {B : (α → β → Option R) → α → β → Option R} (hL : ∀ n, L (n + 1) = B (L n)) (I : α → β → Prop) (μ : α → β → Nat) (Post : R → Prop)
    (step : ∀ rec a b, I a b → (∀ a' b', I a' b' → μ a' b' < μ a b → ∃ r, rec a' b' = some r ∧ Post r) → ∃ r, B rec a b = some r ∧ Post r) : ∀ n a b, I a b → μ a b < n → ∃ r, L n a b = some r ∧ Post r := by
  intro n
  induction n with
  | zero => intro a b _ h; omega
  | succ n ih => intro a b hI h; rw [hL]; exact step _ a b hI fun a' b' h1 h2 => ih a' b' h1 (by omega)
theorem loop3 {α β γ R : Type} {L : Nat → α → β → γ → Option R} {B : (α → β → γ → Option R) → α → β → γ → Option R} (hL : ∀ n, L (n + 1) = B (L n)) (I : α → β → γ → Prop) (μ : α → β → γ → Nat) (Post : R → Prop)
    (step : ∀ rec a b c, I a b c → (∀ a' b' c', I a' b' c' → μ a' b' c' < μ a b c → ∃ r, rec a' b' c' = some r ∧ Post r) → ∃ r, B rec a b c = some r ∧ Post r) : ∀ n a b c, I a b c → μ a b c < n → ∃ r, L n a b c = some r ∧ Post r := by
  intro n
  induction n with
  | zero => intro a b c _ h; omega
  | succ n ih => intro a b c hI h; rw [hL]; exact step _ a b c hI fun a' b' c' h1 h2 => ih a' b' c' h1 (by omega)
theorem loop4 {α β γ δ R : Type} {L : Nat → α → β → γ → δ → Option R} {B : (α → β → γ → δ → Option R) → α → β → γ → δ → Option R} (hL : ∀ n, L (n + 1) = B (L n)) (I : α → β → γ → δ → Prop) (μ : α → β → γ → δ → Nat) (Post : R → Prop)
    (step : ∀ rec a b c d, I a b c d → (∀ a' b' c' d', I a' b' c' d' → μ a' b' c' d' < μ a b c d → ∃ r, rec a' b' c' d' = some r ∧ Post r) → ∃ r, B rec a b c d = some r ∧ Post r) : ∀ n a b c d, I a b c d → μ a b c d < n → ∃ r, L n a b c d = some r ∧ Post r := by
  intro n
  induction n with
  | zero => intro a b c d _ h; omega
  | succ n ih => intro a b c d hI h; rw [hL]; exact step _ a b c d hI fun a' b' c' d' h1 h2 => ih a' b' c' d' h1 (by omega)
theorem loop5 {α β γ δ ε R : Type} {L : Nat → α → β → γ → δ → ε → Option R} {B : (α → β → γ → δ → ε → Option R) → α → β → γ → δ → ε → Option R} (hL : ∀ n, L (n + 1) = B (L n)) (I : α → β → γ → δ → ε → Prop) (μ : α → β → γ → δ → ε → Nat) (Post : R → Prop)
    (step : ∀ rec a b c d e, I a b c d e → (∀ a' b' c' d' e', I a' b' c' d' e' → μ a' b' c' d' e' < μ a b c d e → ∃ r, rec a' b' c' d' e' = some r ∧ Post r) → ∃ r, B rec a b c d e = some r ∧ Post r) : ∀ n a b c d e, I a b c d e → μ a b c d e < n → ∃ r, L n a b c d e = some r ∧ Post r := by
  intro n
  induction n with
  | zero => intro a b c d e _ h; omega
  | succ n ih => intro a b c d e hI h; rw [hL]; exact step _ a b c d e hI fun a' b' c' d' e' h1 h2 => ih a' b' c' d' e' h1 (by omega)

/- comparisons -/
def cmpS (a b : Int) : Int := if a < b then -1 else if b < a then 1 else 0
theorem compare_s (a b : Int) : cmp_Compare_int a b = some (cmpS a b) := by
  simp only [cmp_Compare_int, cmp_isNaN_int, cmpS, Option.bind_some, bne_self_eq_false, Bool.false_eq_true, if_false, decide_eq_true_eq, gt_iff_lt]
  repeat' split
  all_goals first | rfl | omega
theorem order_s (a b : Int) : ref02_order a b = some (cmpS a b) := by
  simp only [ref02_order, cmpS, decide_eq_true_eq, gt_iff_lt]
  repeat' split
  all_goals first | rfl | omega
def orS : List Int → Int
  | [] => 0
  | x :: r => if x = 0 then orS r else x
theorem or_loop (s : List Int) : ∀ (p : List Int) (n : Nat), (p ++ s).length < 1000000 → s.length < n → cmp_Or_int_L1 (p ++ s) n (p.length : Int) = some (orS s) := by
  induction s with
  | nil => intro p n hb hn; cases n with
    | zero => omega
    | succ n => simp only [cmp_Or_int_L1, cmp_Or_int_L1_B, dge, Bool.false_eq_true, if_false, orS]
  | cons x s ih => intro p n hb hn; cases n with
    | zero => omega
    | succ n =>
      simp only [cmp_Or_int_L1, cmp_Or_int_L1_B, dlt, idx_at, if_true, Option.bind_some, orS, bne_iff_ne, ne_eq]
      by_cases h : x = 0
      · simp only [h, not_true_eq_false, if_false, if_true]
        have hl : p.length < 1000000000 := by simp at hb; omega
        rw [nxt p 0 hl, snoc]
        exact ih (p ++ [0]) n (by simpa using hb) (by simpa using hn)
      · simp [h]
theorem or_s {F : Nat} {xs : List Int} (hb : xs.length < 1000000) (hF : xs.length < F) : cmp_Or_int F xs = some (orS xs) := by
  have := or_loop xs [] F (by simpa using hb) hF
  simpa [cmp_Or_int] using this
def cmpId (x y : GStamp) : Int := if cmpS x.Source y.Source ≠ 0 then cmpS x.Source y.Source else cmpS x.Seq y.Seq
def cmpSt (x y : GStamp) : Int := if cmpS x.Time y.Time ≠ 0 then cmpS x.Time y.Time else cmpId x y
theorem compareId_s {F : Nat} (hF : 10 ≤ F) (x y : GStamp) : stamp_compareIdentity F x y = some (cmpId x y) := by
  simp only [stamp_compareIdentity, compare_s, Option.bind_some]
  rw [or_s (by simp) (by simp; omega)]
  simp only [Option.bind_some, orS, cmpId]
  repeat' split
  all_goals simp_all
theorem stampCompare_s {F : Nat} (hF : 10 ≤ F) (x y : GStamp) : stamp_Compare F x y = some (cmpSt x y) := by
  simp only [stamp_Compare, compare_s, Option.bind_some]
  rw [or_s (by simp) (by simp; omega)]
  simp only [Option.bind_some, orS, cmpSt, cmpId]
  repeat' split
  all_goals simp_all
theorem refCompare_s (x y : GStamp) : ref02_Compare x y = some (cmpSt x y) := by
  simp only [ref02_Compare, order_s, Option.bind_some, cmpSt, cmpId, beq_iff_eq]
  repeat' split
  all_goals simp_all
def GStamp.good (x : GStamp) : Bool := (decide (x.Time ≥ 0)) && ((decide (x.Time ≤ 1000000)) && ((decide (x.Source ≥ 0)) && ((decide (x.Source ≤ 99)) && ((decide (x.Seq ≥ 0)) && (decide (x.Seq ≤ 9999))))))
theorem valid_s (x : GStamp) : stamp_Valid x = some x.good := rfl
theorem refValid_s (x : GStamp) : ref02_Valid x = some x.good := rfl
theorem cmpS_lt {a b : Int} : cmpS a b < 0 ↔ a < b := by unfold cmpS; repeat' split
                                                         all_goals omega
theorem cmpS_zero {a b : Int} : cmpS a b = 0 ↔ a = b := by unfold cmpS; repeat' split
                                                           all_goals omega
theorem cmpS_gt {a b : Int} : cmpS a b > 0 ↔ b < a := by unfold cmpS; repeat' split
                                                         all_goals omega
theorem cmpId_lt {x y : GStamp} : cmpId x y < 0 ↔ x.Source < y.Source ∨ x.Source = y.Source ∧ x.Seq < y.Seq := by
  unfold cmpId; have := @cmpS_zero x.Source y.Source; split
  · rw [cmpS_lt]; simp_all
  · rw [cmpS_lt]; simp_all
theorem cmpId_zero {x y : GStamp} : cmpId x y = 0 ↔ x.Source = y.Source ∧ x.Seq = y.Seq := by
  unfold cmpId; have := @cmpS_zero x.Source y.Source; have := @cmpS_zero x.Seq y.Seq; split <;> simp_all
theorem cmpSt_lt {x y : GStamp} : cmpSt x y < 0 ↔ x.Time < y.Time ∨ x.Time = y.Time ∧ (x.Source < y.Source ∨ x.Source = y.Source ∧ x.Seq < y.Seq) := by
  unfold cmpSt; have := @cmpS_zero x.Time y.Time; split
  · rw [cmpS_lt]; simp_all
  · rw [cmpId_lt]; simp_all
theorem cmpSt_zero {x y : GStamp} : cmpSt x y = 0 ↔ x = y := by
  have h1 := @cmpS_zero x.Time y.Time
  have h2 := @cmpId_zero x y
  have h3 : x = y ↔ x.Time = y.Time ∧ x.Source = y.Source ∧ x.Seq = y.Seq := by cases x; cases y; simp
  unfold cmpSt; split <;> simp_all
theorem cmpSt_gt {x y : GStamp} : cmpSt x y > 0 ↔ cmpSt y x < 0 := by
  rw [cmpSt_lt]
  unfold cmpSt cmpId cmpS
  repeat' split
  all_goals omega
end Go.Sh
