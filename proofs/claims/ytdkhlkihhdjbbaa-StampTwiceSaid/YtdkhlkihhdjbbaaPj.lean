/- Plain laws, part 10: StampMany, StampAnyOrder, StampTwice. -/
import Derived.Test.YtdkhlkihhdjbbaaPi
set_option linter.unusedVariables false
set_option linter.unusedSimpArgs false
namespace Go.Sh
open Go.L

/- StampMany -/
def manyAt (N i : Nat) : GStamp := GStamp.mk ((N : Int) - i) 1 i
def manyL (N n : Nat) : List GStamp := (List.range n).map (manyAt N)
def manyA (N : Nat) : List Int := (List.range N).map fun i => (((N - 1 - i : Nat)) : Int)
theorem manyL_len (N n : Nat) : (manyL N n).length = n := by simp [manyL]
theorem many_get {N c i : Nat} (hi : i < N + c) (hc : c ≤ N) : (manyL N N ++ manyL N c)[i]? = some (manyAt N (if i < N then i else i - N)) := by
  by_cases h : i < N
  · rw [List.getElem?_append_left (by simpa [manyL] using h), if_pos h]; simp [manyL, h]
  · rw [List.getElem?_append_right (by simp [manyL]; omega), if_neg h]
    simp only [manyL, List.length_map, List.length_range, List.getElem?_map]
    rw [List.getElem?_range (by omega)]; rfl
theorem many_canon {N c : Nat} (h1 : 1 ≤ N) (h2 : N ≤ 9999) (hc : c ≤ N) : IsCanon (manyL N N ++ manyL N c) (List.replicate (N + c) 0) (manyA N) := by
  have hlen : (manyL N N ++ manyL N c).length = N + c := by simp [manyL]
  have hlt : ∀ i, okAt (manyL N N ++ manyL N c) i → i < N + c := fun i h => by
    by_cases hi : i < N + c
    · exact hi
    · exact absurd h (okAt_ge (by omega))
  have hcl : ∀ i, i < N + c → (List.replicate (N + c) (0 : Int))[i]? = some 0 := fun i hi => by simp [hi]
  have hok : ∀ i, i < N + c → okAt (manyL N N ++ manyL N c) i := fun i hi => by
    refine ⟨_, many_get hi hc, ?_⟩
    have hq : (if i < N then i else i - N) < N + 1 := by split <;> omega
    generalize (if i < N then i else i - N) = q at hq
    have g : ∀ T S Q : Int, 0 ≤ T → T ≤ 1000000 → 0 ≤ S → S ≤ 99 → 0 ≤ Q → Q ≤ 9999 → (GStamp.mk T S Q).good = true := fun T S Q a1 a2 a3 a4 a5 a6 => by
      simp [GStamp.good, a1, a2, a3, a4, a5, a6]
    exact g _ _ _ (by omega) (by omega) (by omega) (by omega) (by omega) (by omega)
  constructor
  · unfold manyA
    rw [List.pairwise_map]
    refine List.Pairwise.imp_of_mem (fun {a b} ha hb hab => ?_) (List.pairwise_lt_range (n := N))
    simp only [List.mem_range] at ha hb
    refine ⟨manyAt N (N - 1 - a), manyAt N (N - 1 - b), ?_, ?_, ?_⟩
    · simp only [Int.toNat_natCast]; rw [many_get (by omega) hc, if_pos (by omega)]
    · simp only [Int.toNat_natCast]; rw [many_get (by omega) hc, if_pos (by omega)]
    · rw [cmpSt_lt]; simp only [manyAt]; left; omega
  · intro i
    have hm : i ∈ manyA N ↔ 0 ≤ i ∧ i < N := by
      simp only [manyA, List.mem_map, List.mem_range]
      constructor
      · rintro ⟨a, ha, rfl⟩; omega
      · rintro ⟨ha, hb⟩; exact ⟨N - 1 - i.toNat, by omega, by omega⟩
    rw [hm]
    constructor
    · rintro ⟨ha, hb⟩
      refine ⟨ha, hok _ (by omega), fun k hk => ⟨?_, fun hki => ?_⟩⟩
      · rintro ⟨x, y, c1, d1, e1, e2, e3, e4, e5, e6⟩
        have hk' := hlt k hk
        rw [many_get (by omega) hc, if_pos (by omega)] at e1
        rw [many_get hk' hc] at e2
        rw [hcl _ (by omega)] at e3
        rw [hcl _ hk'] at e4
        cases e1; cases e2; cases e3; cases e4
        unfold sid at e5
        simp only [manyAt] at e5 e6
        rcases e6 with e6 | e6
        · exact e6 (by omega)
        · exact e6 rfl
      · rw [many_get (by omega) hc, many_get (by omega) hc, if_pos (by omega), if_pos (by omega)]
        intro he
        simp only [manyAt, Option.some.injEq, GStamp.mk.injEq] at he
        omega
    · rintro ⟨ha, hcount⟩
      refine ⟨ha, ?_⟩
      have hi := hlt _ hcount.1
      by_cases h : i.toNat < N
      · omega
      · have := (hcount.2 (i.toNat - N) (hok _ (by omega))).2 (by omega)
        rw [many_get (by omega) hc, many_get hi hc, if_pos (by omega), if_neg h] at this
        exact absurd rfl this
theorem many3 {F : Nat} (hF : 20 ≤ F) {N : Nat} (h2 : N ≤ 400) {r1 : Int} (hr : i64 (295 + r1) = N) :
    ∀ n (k : Int), (∃ j : Nat, k = j ∧ j ≤ N) → (N - k.toNat) < n → ∃ r, law02_StampMany_L3 F r1 (manyA N, 0) n k = some r ∧ r = true := by
  refine loop1 (L := law02_StampMany_L3 F r1 (manyA N, 0)) (B := law02_StampMany_L3_B F r1 (manyA N, 0)) (fun _ => rfl) _ (fun (k : Int) => N - k.toNat) _ ?_
  rintro rec k ⟨j, rfl, hj⟩ hrec
  unfold law02_StampMany_L3_B
  rw [hr]
  by_cases hlt : j < N
  · have d1 : decide ((j : Int) < (N : Int)) = true := by simp; exact hlt
    have hix : idx (manyA N) (j : Int) = some ((N - 1 - j : Nat) : Int) := by rw [idx_nat]; simp [manyA, hlt]
    have hw : i64 (i64 ((N : Int) - 1) - j) = ((N - 1 - j : Nat) : Int) := by rw [i64_of (n := (N : Int) - 1) (by omega) (by omega), i64_of (by omega) (by omega)]; omega
    simp only [d1, if_true, hix, hw, Option.bind_some, bne_self_eq_false, Bool.false_eq_true, if_false]
    rw [i64_of (by omega) (by omega)]
    exact hrec _ ⟨j + 1, by omega, by omega⟩ (by simp; omega)
  · have d1 : decide ((j : Int) < (N : Int)) = false := by simp; omega
    simp only [d1, Bool.false_eq_true, if_false, awake_s hF, Option.bind_some]
    exact ⟨_, rfl, rfl⟩
theorem many2 {F : Nat} (hF : 1000 ≤ F) {N c : Nat} (h1 : 295 ≤ N) (h2 : N ≤ 400) (hc : c ≤ 30) {r1 : Int} (hr : i64 (295 + r1) = N) :
    ∀ n (k : Int) (l : List GStamp), (∃ j : Nat, k = j ∧ j ≤ c ∧ l = manyL N N ++ manyL N j) → (c - k.toNat) < n → ∃ r, law02_StampMany_L2 F r1 c n k l = some r ∧ r = true := by
  refine loop2 (L := law02_StampMany_L2 F r1 c) (B := law02_StampMany_L2_B F r1 c) (fun _ => rfl) _ (fun (k : Int) (_ : List GStamp) => c - k.toNat) _ ?_
  rintro rec k l ⟨j, rfl, hj, rfl⟩ hrec
  unfold law02_StampMany_L2_B
  have hlen : (manyL N N ++ manyL N j).length = N + j := by simp [manyL]
  by_cases hlt : j < c
  · have d1 : decide ((j : Int) < (c : Int)) = true := by simp; exact hlt
    have hix : idx (manyL N N ++ manyL N j) (j : Int) = some (manyAt N j) := by rw [idx_nat, many_get (by omega) (by omega), if_pos (by omega)]
    simp only [d1, if_true, hix, Option.bind_some]
    rw [app_of (by rw [hlen]; simp; omega)]
    simp only [Option.bind_some]
    rw [i64_of (by omega) (by omega)]
    refine hrec _ _ ⟨j + 1, by omega, by omega, ?_⟩ (by simp; omega)
    simp [manyL, List.range_succ]
  · have d1 : decide ((j : Int) < (c : Int)) = false := by simp; omega
    have hjc : j = c := by omega
    subst hjc
    simp only [d1, Bool.false_eq_true, if_false, hlen]
    rw [mkl_of (by omega)]
    simp only [Option.bind_some]
    rw [canonical_e (by omega) (by omega) (by omega)]
    have hcan := (many_canon (N := N) (c := j) (by omega) (by omega) (by omega)).unique (canonL_is _ _)
    have hal : (manyA N).length = N := by simp [manyA]
    have hcs : canonS (manyL N N ++ manyL N j) (List.replicate (N + j) 0) = if 300 < N then ([], 3) else (manyA N, 0) := by
      unfold canonS
      rw [if_neg (by rw [hlen]; simp), ← hcan, hal]
    simp only [hcs, hr, Option.bind_some]
    by_cases h300 : 300 < N
    · have : decide ((N : Int) > 300) = true := by simp; omega
      simp only [h300, if_true, this, awake_s (F := F) (by omega), Option.bind_some, List.length_nil, beq_self_eq_true, Int.ofNat_zero]
      exact ⟨_, rfl, rfl⟩
    · have : decide ((N : Int) > 300) = false := by simp; omega
      simp only [h300, if_false, this, Bool.false_eq_true, hal, bne_self_eq_false, Bool.or_self]
      exact many3 (by omega) h2 hr F 0 ⟨0, rfl, by omega⟩ (by simp; omega)
theorem many1 {F : Nat} (hF : 1000 ≤ F) {N c : Nat} (h1 : 295 ≤ N) (h2 : N ≤ 400) (hc : c ≤ 30) {r1 : Int} (hr : i64 (295 + r1) = N) :
    ∀ n (k : Int) (l : List GStamp), (∃ j : Nat, k = j ∧ j ≤ N ∧ l = manyL N j) → (N - k.toNat) < n → ∃ r, law02_StampMany_L1 F r1 c n k l = some r ∧ r = true := by
  refine loop2 (L := law02_StampMany_L1 F r1 c) (B := law02_StampMany_L1_B F r1 c) (fun _ => rfl) _ (fun (k : Int) (_ : List GStamp) => N - k.toNat) _ ?_
  rintro rec k l ⟨j, rfl, hj, rfl⟩ hrec
  unfold law02_StampMany_L1_B
  rw [hr]
  by_cases hlt : j < N
  · have d1 : decide ((j : Int) < (N : Int)) = true := by simp; exact hlt
    simp only [d1, if_true]
    rw [app_of (by simp [manyL]; omega)]
    simp only [Option.bind_some]
    rw [i64_of (n := (N : Int) - j) (by omega) (by omega), i64_of (by omega) (by omega)]
    refine hrec _ _ ⟨j + 1, by omega, by omega, ?_⟩ (by simp; omega)
    simp [manyL, List.range_succ, manyAt]
  · have d1 : decide ((j : Int) < (N : Int)) = false := by simp; omega
    have hjn : j = N := by omega
    subst hjn
    simp only [d1, Bool.false_eq_true, if_false]
    exact many2 hF h1 h2 hc hr F 0 _ ⟨0, rfl, by omega, by simp [manyL]⟩ (by simp; omega)
theorem law_StampMany (n copies : Int) : ∃ F, law02_StampMany F n copies = some true := by
  refine ⟨1000, ?_⟩
  obtain ⟨r1, h1, h2, h3, _⟩ := cut_s n 12 (by omega)
  obtain ⟨r2, h4, h5, h6, _⟩ := cut_s copies 20 (by omega)
  have := h3 (by omega)
  have := h6 (by omega)
  obtain ⟨c, rfl⟩ : ∃ c : Nat, r2 = c := ⟨r2.toNat, by omega⟩
  simp only [law02_StampMany, h1, h4, Option.bind_some]
  obtain ⟨r, h7, rfl⟩ := many1 (F := 1000) (by omega) (N := (295 + r1).toNat) (c := c) (by omega) (by omega) (by omega) (r1 := r1) (by rw [i64_of (by omega) (by omega)]; omega) 1000 0 [] ⟨0, rfl, by omega, rfl⟩ (by simp; omega)
  exact h7

/- orders -/
theorem torder_s {F : Nat} {t : GTape} (ht : Tp t) {m : Nat} (hm : m ≤ 1000) (hF : m < F) : ∃ o t', GTape_Order F t m = some (o, t') ∧ Tp t' ∧ o.length = m ∧ ∀ x, x ∈ o ↔ 0 ≤ x ∧ x < m := by
  have key : ∀ n (l1 : List Int) (k : Int) (L : List Int) (A : Int), (∃ j : Nat, k = j ∧ j ≤ m ∧ Tp (GTape.mk L A) ∧ l1.length = j ∧ ∀ x, x ∈ l1 ↔ 0 ≤ x ∧ x < j) → (m - k.toNat) < n → ∃ r, GTape_Order_L1 m n l1 k L A = some r ∧ (Tp r.2 ∧ r.1.length = m ∧ ∀ x, x ∈ r.1 ↔ 0 ≤ x ∧ x < m) := by
    refine loop4 (L := GTape_Order_L1 m) (B := GTape_Order_L1_B m) (fun _ => rfl) _ (fun (_ : List Int) (k : Int) (_ : List Int) (_ : Int) => m - k.toNat) _ ?_
    rintro rec l1 k L A ⟨j, rfl, hj, ht, hl, hx⟩ hrec
    unfold GTape_Order_L1_B
    by_cases hlt : j < m
    · have d1 : decide ((j : Int) < (m : Int)) = true := by simp; exact hlt
      have hw : i64 ((j : Int) + 1) = ((j + 1 : Nat) : Int) := by rw [i64_of (by omega) (by omega)]; omega
      obtain ⟨q, t1, h1, h2, h3, h4, _⟩ := next_s ht ((j + 1 : Nat) : Int) (by omega)
      have := h4 (by omega)
      obtain ⟨p, rfl⟩ : ∃ p : Nat, q = p := ⟨q.toNat, by omega⟩
      simp only [d1, if_true, hw, h1, Option.bind_some]
      rw [slc_take (by omega), slc_drop (by omega)]
      simp only [Option.bind_some]
      rw [app_of (by simp; omega)]
      simp only [Option.bind_some, List.nil_append]
      rw [app_of (by simp; omega)]
      simp only [Option.bind_some]
      rw [app_of (by simp; omega)]
      simp only [Option.bind_some]
      refine hrec _ _ _ _ ⟨j + 1, rfl, by omega, h2, by simp; omega, fun x => ?_⟩ (by simp; omega)
      have hsplit : x ∈ l1 ↔ x ∈ l1.take p ∨ x ∈ l1.drop p := by rw [← List.mem_append, List.take_append_drop]
      simp only [List.mem_append, List.mem_singleton]
      rw [hx] at hsplit
      constructor
      · rintro ((h | h) | h)
        · have := hsplit.2 (.inl h); omega
        · omega
        · have := hsplit.2 (.inr h); omega
      · rintro ⟨a1, a2⟩
        by_cases he : x = (j : Int)
        · exact .inl (.inr he)
        · rcases hsplit.1 ⟨a1, by omega⟩ with h | h
          · exact .inl (.inl h)
          · exact .inr h
    · have d1 : decide ((j : Int) < (m : Int)) = false := by simp; omega
      have : j = m := by omega
      subst this
      simp only [d1, Bool.false_eq_true, if_false]
      exact ⟨_, rfl, ht, hl, hx⟩
  obtain ⟨⟨o, t'⟩, h1, h2⟩ := key F [] 0 t.L t.At ⟨0, rfl, by omega, ht, rfl, fun x => by simp only [List.not_mem_nil, false_iff]; omega⟩ (by simpa using hF)
  exact ⟨o, t', h1, h2⟩
theorem mixed_s {F : Nat} {t : GTape} (ht : Tp t) {m : Nat} (hm : m ≤ 1000) (hF : m < F) (hF2 : 10 ≤ F) : ∃ o t', GTape_Mixed F t m = some (o, t') ∧ Tp t' ∧ o.length ≤ m + 3 ∧ ∀ x, x ∈ o ↔ 0 ≤ x ∧ x < m := by
  have key : ∀ n (l3 : List Int) (k : Int) (L : List Int) (A : Int), (0 ≤ k ∧ Tp (GTape.mk L A) ∧ (l3.length : Int) + k ≤ m + 3 ∧ ∀ x, x ∈ l3 ↔ 0 ≤ x ∧ x < m) → k.toNat < n → ∃ r, GTape_Mixed_L1 m n l3 k L A = some r ∧ (Tp r.2 ∧ r.1.length ≤ m + 3 ∧ ∀ x, x ∈ r.1 ↔ 0 ≤ x ∧ x < m) := by
    refine loop4 (L := GTape_Mixed_L1 m) (B := GTape_Mixed_L1_B m) (fun _ => rfl) _ (fun (_ : List Int) (k : Int) (_ : List Int) (_ : Int) => k.toNat) _ ?_
    rintro rec l3 k L A ⟨hk, ht, hl, hx⟩ hrec
    unfold GTape_Mixed_L1_B
    by_cases hgo : k > 0 ∧ (m : Int) > 0
    · have d1 : (decide (k > 0) && decide ((m : Int) > 0)) = true := by simp only [hgo.1, hgo.2, decide_true, Bool.and_self]
      have hw : i64 ((l3.length : Int) + 1) = ((l3.length + 1 : Nat) : Int) := by rw [i64_of (by omega) (by omega)]; omega
      obtain ⟨q, t1, h1, h2, h3, h4, _⟩ := next_s ht ((l3.length + 1 : Nat) : Int) (by omega)
      have := h4 (by omega)
      obtain ⟨p, rfl⟩ : ∃ p : Nat, q = p := ⟨q.toNat, by omega⟩
      obtain ⟨y, t2, h5, h6, h7, h8, _⟩ := next_s h2 (m : Int) (by omega)
      have := h8 (by omega)
      simp only [d1, if_true, hw, h1, h5, Option.bind_some]
      rw [slc_take (by omega), slc_drop (by omega)]
      simp only [Option.bind_some]
      rw [app_of (by simp; omega)]
      simp only [Option.bind_some, List.nil_append]
      rw [app_of (by simp; omega)]
      simp only [Option.bind_some]
      rw [app_of (by simp; omega)]
      simp only [Option.bind_some]
      rw [i64_of (by omega) (by omega)]
      refine hrec _ _ _ _ ⟨by omega, h6, by simp; omega, fun x => ?_⟩ (by omega)
      have hsplit : x ∈ l3 ↔ x ∈ l3.take p ∨ x ∈ l3.drop p := by rw [← List.mem_append, List.take_append_drop]
      simp only [List.mem_append, List.mem_singleton]
      rw [hx] at hsplit
      constructor
      · rintro ((h | h) | h)
        · exact hsplit.2 (.inl h)
        · omega
        · exact hsplit.2 (.inr h)
      · intro h
        rcases hsplit.1 h with h | h
        · exact .inl (.inl h)
        · exact .inr h
    · have d1 : (decide (k > 0) && decide ((m : Int) > 0)) = false := by
        rw [Bool.and_eq_false_iff, decide_eq_false_iff_not, decide_eq_false_iff_not]; omega
      simp only [d1, Bool.false_eq_true, if_false]
      exact ⟨_, rfl, ht, by simp only; omega, hx⟩
  obtain ⟨o, t1, h1, h2, h3, h4⟩ := torder_s (F := F) ht hm hF
  obtain ⟨q, t2, h5, h6, h7, h8, _⟩ := next_s h2 4 (by omega)
  have := h8 (by omega)
  obtain ⟨⟨o', t'⟩, h9, h10⟩ := key F o q t2.L t2.At ⟨h7, h6, by omega, h4⟩ (by omega)
  exact ⟨o', t', by simp only [GTape_Mixed, h1, h5, Option.bind_some]; exact h9, h10⟩

/- the counting events by their contents -/
theorem first_of {p : Nat → Prop} (h : ∃ n, p n) : ∃ n, p n ∧ ∀ k, k < n → ¬ p k := by
  obtain ⟨n, hn⟩ := h
  induction n using Nat.strongRecOn with
  | _ n ih =>
    by_cases hk : ∃ k, k < n ∧ p k
    · obtain ⟨k, h1, h2⟩ := hk; exact ih k h1 h2
    · exact ⟨n, hn, fun k h1 h2 => hk ⟨k, h1, h2⟩⟩
def clash (x y : GStamp) (c d : Int) : Prop := sid x y ∧ (x.Time ≠ y.Time ∨ c ≠ d)
/-- the pair counts in a set of pairs -/
def pairCounts (S : GStamp × Int → Prop) (x : GStamp × Int) : Prop := x.1.good = true ∧ S x ∧ ∀ y, S y → y.1.good = true → ¬ clash x.1 y.1 x.2 y.2
def pairAt (l : List GStamp) (cl : List Int) (x : GStamp × Int) : Prop := ∃ i : Nat, l[i]? = some x.1 ∧ cl[i]? = some x.2
def prs (l : List GStamp) (cl : List Int) (a : List Int) : List (GStamp × Int) := a.map fun i => (sat l i, cat cl i)
theorem prs_mem {l : List GStamp} {cl : List Int} {a : List Int} (hl : l.length = cl.length) (h : IsCanon l cl a) (x : GStamp × Int) : x ∈ prs l cl a ↔ pairCounts (pairAt l cl) x := by
  unfold prs
  simp only [List.mem_map]
  constructor
  · rintro ⟨i, hi, rfl⟩
    have hc := (h.mem i).1 hi
    have hv : vat l i := ⟨hc.1, hc.2.1⟩
    refine ⟨?_, ⟨i.toNat, vat_get hv, vat_cget hv hl⟩, ?_⟩
    · obtain ⟨y, h1, h2⟩ := hc.2.1
      rw [vat_get hv] at h1; cases h1; exact h2
    · rintro ⟨y, d⟩ ⟨k, h1, h2⟩ hg hcl
      refine (hc.2.2 k ⟨y, h1, hg⟩).1 ⟨_, _, _, _, vat_get hv, h1, vat_cget hv hl, h2, hcl⟩
  · obtain ⟨x, c⟩ := x
    rintro ⟨hg, ⟨i0, h1, h2⟩, hn⟩
    obtain ⟨i, hi, hmin⟩ := first_of (p := fun i => l[i]? = some x) ⟨i0, h1⟩
    have hil : i < l.length := (List.getElem?_eq_some_iff.1 hi).1
    have hic : i < cl.length := by omega
    have hcc : cl[i]? = some c := by
      by_cases he : cl[i] = c
      · simp [hic, he]
      · refine absurd ⟨⟨rfl, rfl⟩, .inr (fun h => he h.symm)⟩ (hn (x, cl[i]) ⟨i, hi, by simp [hic]⟩ hg)
    have hv : vat l (i : Int) := ⟨by omega, ⟨x, by simpa using hi, hg⟩⟩
    refine ⟨(i : Int), (h.mem _).2 ⟨by omega, ?_⟩, ?_⟩
    · simp only [Int.toNat_natCast]
      refine ⟨⟨x, hi, hg⟩, fun k ⟨y, hy, hyg⟩ => ⟨?_, fun hk => ?_⟩⟩
      · rintro ⟨x', y', c', d', e1, e2, e3, e4, e5⟩
        rw [hi] at e1; cases e1
        rw [hcc] at e3; cases e3
        exact hn (y', d') ⟨k, e2, e4⟩ (by rw [hy] at e2; cases e2; exact hyg) e5
      · rw [hi]; exact hmin k hk
    · have e1 := vat_get hv
      have e2 := vat_cget hv hl
      simp only [Int.toNat_natCast] at e1 e2
      rw [hi] at e1; rw [hcc] at e2
      rw [← Option.some.inj e1, ← Option.some.inj e2]
theorem prs_sorted {l : List GStamp} {cl : List Int} {a : List Int} (h : IsCanon l cl a) : (prs l cl a).Pairwise fun x y => cmpSt x.1 y.1 < 0 := by
  unfold prs
  rw [List.pairwise_map]
  refine List.Pairwise.imp_of_mem (fun {i j} hi hj hij => ?_) h.sorted
  have ci := (h.mem i).1 hi
  have cj := (h.mem j).1 hj
  obtain ⟨x, y, h1, h2, h3⟩ := hij
  rw [vat_get ⟨ci.1, ci.2.1⟩] at h1; rw [vat_get ⟨cj.1, cj.2.1⟩] at h2
  cases h1; cases h2; exact h3
/-- the counting pairs depend on the set of pairs alone -/
theorem prs_eq {l m : List GStamp} {cl cm : List Int} {a b : List Int} (hl : l.length = cl.length) (hm : m.length = cm.length) (ha : IsCanon l cl a) (hb : IsCanon m cm b) (h : ∀ x, pairAt l cl x ↔ pairAt m cm x) : prs l cl a = prs m cm b := by
  refine sorted_ext (R := fun x y : GStamp × Int => cmpSt x.1 y.1 < 0) (fun x => by rw [cmpSt_lt]; omega) (fun x y z p q => by rw [cmpSt_lt] at *; omega) (prs_sorted ha) (prs_sorted hb) fun x => ?_
  rw [prs_mem hl ha, prs_mem hm hb]
  have : pairAt l cl = pairAt m cm := funext fun x => propext (h x)
  rw [this]
theorem any2 {F : Nat} (hF : 20 ≤ F) {l m : List GStamp} {cl cm : List Int} {t : GTape} {a b : List Int} (hl : l.length = cl.length) (hm : m.length = cm.length) (ha : IsCanon l cl a) (hb : IsCanon m cm b) (he : prs l cl a = prs m cm b) (hal : a.length < 1000000) :
    ∀ n (k : Int), (∃ j : Nat, k = j ∧ j ≤ a.length) → (a.length - k.toNat) < n → ∃ r, law02_StampAnyOrder_L2 F (l, cl, t) m cm (a, 0) (b, 0) n k = some r ∧ r = true := by
  refine loop1 (L := law02_StampAnyOrder_L2 F (l, cl, t) m cm (a, 0) (b, 0)) (B := law02_StampAnyOrder_L2_B F (l, cl, t) m cm (a, 0) (b, 0)) (fun _ => rfl) _ (fun (k : Int) => a.length - k.toNat) _ ?_
  rintro rec k ⟨j, rfl, hj⟩ hrec
  unfold law02_StampAnyOrder_L2_B
  have hlen : a.length = b.length := by have := congrArg List.length he; simpa [prs] using this
  by_cases hlt : j < a.length
  · have d1 : decide ((j : Int) < (a.length : Int)) = true := by simp; exact hlt
    have hlt' : j < b.length := by omega
    have ca := (ha.mem a[j]).1 (by simp)
    have cb := (hb.mem b[j]).1 (by simp)
    have va : vat l a[j] := ⟨ca.1, ca.2.1⟩
    have vb : vat m b[j] := ⟨cb.1, cb.2.1⟩
    have la := vat_lt va
    have lb := vat_lt vb
    have hpe : (sat l a[j], cat cl a[j]) = (sat m b[j], cat cm b[j]) := by
      have := congrArg (fun x => x[j]?) he
      simpa [prs, hlt, hlt'] using this
    have e1 : sat l a[j] = sat m b[j] := congrArg Prod.fst hpe
    have e2 : cat cl a[j] = cat cm b[j] := congrArg Prod.snd hpe
    have n1 : ¬ a[j] < 0 := by omega
    have n2 : ¬ a[j] ≥ (l.length : Int) := by omega
    have n3 : ¬ b[j] < 0 := by omega
    have n4 : ¬ b[j] ≥ (m.length : Int) := by omega
    simp only [d1, if_true, idx_lt hlt, idx_lt hlt', Option.bind_some, n1, n2, n3, n4, decide_false, Bool.false_eq_true, if_false, vat_idx va, vat_idx vb, vat_cidx va hl, vat_cidx vb hm, e1, e2, decide_true, Bool.not_true, bne_self_eq_false]
    rw [i64_of (by omega) (by omega)]
    exact hrec _ ⟨j + 1, by omega, by omega⟩ (by simp; omega)
  · have d1 : decide ((j : Int) < (a.length : Int)) = false := by simp; omega
    simp only [d1, Bool.false_eq_true, if_false, awake_s hF, Option.bind_some]
    exact ⟨_, rfl, rfl⟩
theorem any1 {F : Nat} (hF : 1000 ≤ F) {l : List GStamp} {cl : List Int} {t t' : GTape} {o : List Int} (hl : l.length = cl.length) (h1 : l.length ≤ 100) (ho : o.length ≤ 200) (hx : ∀ x, x ∈ o ↔ 0 ≤ x ∧ x < l.length) :
    ∀ n (k : Int) (m : List GStamp) (c : List Int), (∃ j : Nat, k = j ∧ j ≤ o.length ∧ m = (o.take j).map (sat l) ∧ c = (o.take j).map (cat cl)) → (o.length - k.toNat) < n → ∃ r, law02_StampAnyOrder_L1 F (l, cl, t) (o, t') n k m c = some r ∧ r = true := by
  refine loop3 (L := law02_StampAnyOrder_L1 F (l, cl, t) (o, t')) (B := law02_StampAnyOrder_L1_B F (l, cl, t) (o, t')) (fun _ => rfl) _ (fun (k : Int) (_ : List GStamp) (_ : List Int) => o.length - k.toNat) _ ?_
  rintro rec k m c ⟨j, rfl, hj, rfl, rfl⟩ hrec
  unfold law02_StampAnyOrder_L1_B
  have hget : ∀ x ∈ o, idx l x = some (sat l x) ∧ idx cl x = some (cat cl x) := fun x hxo => by
    have := (hx x).1 hxo
    constructor
    · rw [idx_some]; exact ⟨this.1, by simp [sat]; rw [List.getElem?_eq_getElem (by omega)]; simp⟩
    · rw [idx_some]; exact ⟨this.1, by simp [cat]; rw [List.getElem?_eq_getElem (by omega)]; simp⟩
  by_cases hlt : j < o.length
  · have d1 : decide ((j : Int) < (o.length : Int)) = true := by simp; exact hlt
    have hg := hget o[j] (by simp)
    simp only [d1, if_true, idx_lt hlt, Option.bind_some, hg.1, hg.2]
    rw [app_of (by simp; omega), app_of (by simp; omega)]
    simp only [Option.bind_some]
    rw [i64_of (by omega) (by omega)]
    refine hrec _ _ _ ⟨j + 1, by omega, by omega, ?_, ?_⟩ (by simp; omega)
    · rw [List.take_succ_eq_append_getElem hlt, List.map_append]; rfl
    · rw [List.take_succ_eq_append_getElem hlt, List.map_append]; rfl
  · have d1 : decide ((j : Int) < (o.length : Int)) = false := by simp; omega
    have htk : o.take j = o := List.take_of_length_le (by omega)
    simp only [d1, Bool.false_eq_true, if_false, htk]
    rw [canonical_e (by omega) (by omega) (by omega), canonical_e (by omega) (by simp; omega) (by simp; omega), canonS_small hl (by omega), canonS_small (by simp) (by simp; omega)]
    have he : prs l cl (canonL l cl) = prs (o.map (sat l)) (o.map (cat cl)) (canonL (o.map (sat l)) (o.map (cat cl))) := by
      refine prs_eq hl (by simp) (canonL_is _ _) (canonL_is _ _) fun x => ?_
      constructor
      · rintro ⟨i, e1, e2⟩
        have hi : i < l.length := (List.getElem?_eq_some_iff.1 e1).1
        obtain ⟨q, hq⟩ := List.mem_iff_getElem?.1 ((hx (i : Int)).2 ⟨by omega, by omega⟩)
        refine ⟨q, ?_, ?_⟩
        · simp [hq, sat, e1]
        · simp [hq, cat, e2]
      · rintro ⟨q, e1, e2⟩
        simp only [List.getElem?_map, Option.map_eq_some_iff] at e1 e2
        obtain ⟨y, hy, e1⟩ := e1
        obtain ⟨y', hy', e2⟩ := e2
        rw [hy] at hy'; cases hy'
        have hyo := (hx y).1 (List.mem_of_getElem? hy)
        refine ⟨y.toNat, ?_, ?_⟩
        · rw [← e1]; simp [sat]; rw [List.getElem?_eq_getElem (by omega)]; simp
        · rw [← e2]; simp [cat]; rw [List.getElem?_eq_getElem (by omega)]; simp
    have hlen : (canonL l cl).length = (canonL (o.map (sat l)) (o.map (cat cl))).length := by have := congrArg List.length he; simpa [prs] using this
    have hcl := canonL_len l cl
    simp only [Option.bind_some, hlen, bne_self_eq_false, Bool.or_self, Bool.false_eq_true, if_false]
    exact any2 (by omega) hl (by simp) (canonL_is _ _) (canonL_is _ _) he (by omega) F 0 ⟨0, rfl, by omega⟩ (by simp; omega)
theorem law_StampAnyOrder (t : List Int) : ∃ F, law02_StampAnyOrder F t = some true := by
  refine ⟨1000, ?_⟩
  obtain ⟨t0, h1, h2⟩ := new_s t
  obtain ⟨l, cl, t1, h3, h4, h5, h6⟩ := events_s (F := 1000) h2 10 8 (by omega) (by omega) (by omega)
  obtain ⟨o, t2, h7, h8, h9, h10⟩ := mixed_s (F := 1000) h4 (m := l.length) (by omega) (by omega) (by omega)
  simp only [law02_StampAnyOrder, h1, Option.bind_some]
  rw [show (10 : Int) = ((10 : Nat) : Int) from rfl, h3]
  simp only [Option.bind_some, h7]
  obtain ⟨r, h11, rfl⟩ := any1 (F := 1000) (by omega) (t := t1) (t' := t2) h5 (by omega) (by omega) h10 1000 0 [] [] ⟨0, rfl, by omega, by simp, by simp⟩ (by simp; omega)
  exact h11

/- StampTwice -/
/-- counting events have different identities -/
theorem counts_id {l : List GStamp} {cl : List Int} (hl : l.length = cl.length) {i k : Int} (hi : 0 ≤ i ∧ counts l cl i.toNat) (hk : 0 ≤ k ∧ counts l cl k.toNat) (h : cmpId (sat l i) (sat l k) = 0) : i = k := by
  have vi : vat l i := ⟨hi.1, hi.2.1⟩
  have vk : vat l k := ⟨hk.1, hk.2.1⟩
  have hd := (hi.2.2 k.toNat hk.2.1).1
  rw [disp_vat hl vi vk] at hd
  have ht : (sat l i).Time = (sat l k).Time := Decidable.byContradiction fun hn => hd ⟨h, .inl hn⟩
  have := counts_inj hi.2 hk.2 (by rw [vat_get vi, vat_get vk, (diff_iff h).2 ht])
  omega
theorem twice2 {F : Nat} (hF : 1000 ≤ F) {l : List GStamp} {cl : List Int} {t : GTape} {a : List Int} (hl : l.length = cl.length) (ha : IsCanon l cl a) (hal : a.length ≤ 100) {j : Nat} (hj : j < a.length) {rec1 : Int → List GStamp → List Int → List Int → Option Bool}
    (hrec1 : ∃ r, rec1 (i64 ((j : Int) + 1)) ((a.take j).map (sat l) ++ [sat l a[j]]) ((a.take j).map (cat cl) ++ [cat cl a[j]]) ((List.range j).map Int.ofNat ++ [(j : Int)]) = some r ∧ r = true) :
    ∀ n (k : Int), (∃ q : Nat, k = q ∧ q ≤ j) → (j - k.toNat) < n → ∃ r, law02_StampTwice_L2 rec1 F (l, cl, t) (a, 0) j ((a.take j).map (sat l)) ((a.take j).map (cat cl)) ((List.range j).map Int.ofNat) n k = some r ∧ r = true := by
  refine loop1 (L := law02_StampTwice_L2 rec1 F (l, cl, t) (a, 0) j ((a.take j).map (sat l)) ((a.take j).map (cat cl)) ((List.range j).map Int.ofNat)) (B := law02_StampTwice_L2_B rec1 F (l, cl, t) (a, 0) j ((a.take j).map (sat l)) ((a.take j).map (cat cl)) ((List.range j).map Int.ofNat)) (fun _ => rfl) _ (fun (k : Int) => j - k.toNat) _ ?_
  rintro rec k ⟨q, rfl, hq⟩ hrec
  unfold law02_StampTwice_L2_B
  have cj := (ha.mem a[j]).1 (by simp)
  have vj : vat l a[j] := ⟨cj.1, cj.2.1⟩
  by_cases hlt : q < j
  · have d1 : decide ((q : Int) < (j : Int)) = true := by simp; exact hlt
    have hqa : q < a.length := by omega
    have hix : idx ((a.take j).map (sat l)) (q : Int) = some (sat l a[q]) := by
      rw [idx_nat]; simp [List.getElem?_take, hlt, hqa]
    have cq := (ha.mem a[q]).1 (by simp)
    have vq : vat l a[q] := ⟨cq.1, cq.2.1⟩
    have hlt2 : ltAt l a[q] a[j] := (List.pairwise_iff_getElem.1 ha.sorted) q j hqa hj hlt
    have hc : cmpSt (sat l a[q]) (sat l a[j]) < 0 := by
      obtain ⟨x, y, e1, e2, e3⟩ := hlt2
      rw [vat_get vq] at e1; rw [vat_get vj] at e2; cases e1; cases e2; exact e3
    have hid : ¬ ((sat l a[q]).Source = (sat l a[j]).Source ∧ (sat l a[q]).Seq = (sat l a[j]).Seq) := fun h => by
      have := counts_id hl cq cj (cmpId_zero.2 h)
      rw [this] at hlt2; exact ltAt_irr l _ hlt2
    have n1 : ¬ cmpSt (sat l a[q]) (sat l a[j]) ≥ 0 := by omega
    have hnext : ∃ r, rec (i64 ((q : Int) + 1)) = some r ∧ r = true := by
      rw [i64_of (by omega) (by omega)]
      exact hrec _ ⟨q + 1, by omega, by omega⟩ (by simp; omega)
    simp only [d1, if_true, hix, idx_lt hj, vat_idx vj, Option.bind_some, stampCompare_s (F := F) (by omega), n1, decide_false, beq_iff_eq]
    by_cases hs : (sat l a[q]).Source = (sat l a[j]).Source
    · have hs2 : ¬ (sat l a[q]).Seq = (sat l a[j]).Seq := fun h => hid ⟨hs, h⟩
      simp only [hs, if_true, hs2, if_false, Option.bind_some, Bool.false_eq_true]
      exact hnext
    · simp only [hs, if_false, Option.bind_some, Bool.false_eq_true]
      exact hnext
  · have d1 : decide ((q : Int) < (j : Int)) = false := by simp; omega
    simp only [d1, Bool.false_eq_true, if_false, idx_lt hj, vat_idx vj, vat_cidx vj hl, Option.bind_some]
    rw [app_of (by simp; omega), app_of (by simp; omega), app_of (by simp; omega)]
    simp only [Option.bind_some]
    exact hrec1
theorem twice_canon {l : List GStamp} {cl : List Int} {a : List Int} (hl : l.length = cl.length) (ha : IsCanon l cl a) : IsCanon (a.map (sat l)) (a.map (cat cl)) ((List.range a.length).map Int.ofNat) := by
  have hget : ∀ i (h : i < a.length), (a.map (sat l))[i]? = some (sat l a[i]) := fun i h => by simp [h]
  have hcget : ∀ i (h : i < a.length), (a.map (cat cl))[i]? = some (cat cl a[i]) := fun i h => by simp [h]
  have hc : ∀ i (h : i < a.length), 0 ≤ a[i] ∧ counts l cl a[i].toNat := fun i h => (ha.mem _).1 (by simp)
  have hsort : ∀ i j (hi : i < a.length) (hj : j < a.length), i < j → cmpSt (sat l a[i]) (sat l a[j]) < 0 := fun i j hi hj hij => by
    obtain ⟨x, y, e1, e2, e3⟩ := (List.pairwise_iff_getElem.1 ha.sorted) i j hi hj hij
    rw [vat_get ⟨(hc i hi).1, (hc i hi).2.1⟩] at e1; rw [vat_get ⟨(hc j hj).1, (hc j hj).2.1⟩] at e2
    cases e1; cases e2; exact e3
  have hok : ∀ i, okAt (a.map (sat l)) i → i < a.length := fun i ⟨x, h, _⟩ => by have := (List.getElem?_eq_some_iff.1 h).1; simpa using this
  constructor
  · rw [List.pairwise_map]
    refine List.Pairwise.imp_of_mem (fun {i j} hi hj hij => ?_) (List.pairwise_lt_range (n := a.length))
    simp only [List.mem_range] at hi hj
    exact ⟨_, _, by simpa using hget i hi, by simpa using hget j hj, hsort i j hi hj hij⟩
  · intro x
    simp only [List.mem_map, List.mem_range]
    constructor
    · rintro ⟨i, hi, rfl⟩
      refine ⟨by simp, ?_⟩
      show counts _ _ i
      have ci := hc i hi
      refine ⟨⟨_, hget i hi, ?_⟩, fun k hk => ?_⟩
      · obtain ⟨y, e1, e2⟩ := ci.2.1
        rw [vat_get ⟨ci.1, ci.2.1⟩] at e1; cases e1; exact e2
      · have hkl := hok k hk
        constructor
        · rintro ⟨x, y, c, d, e1, e2, e3, e4, e5, e6⟩
          rw [hget i hi] at e1; rw [hget k hkl] at e2; rw [hcget i hi] at e3; rw [hcget k hkl] at e4
          cases e1; cases e2; cases e3; cases e4
          have := counts_id hl (hc i hi) (hc k hkl) (cmpId_zero.2 e5)
          rw [this] at e6
          rcases e6 with e6 | e6 <;> exact e6 rfl
        · intro hki
          rw [hget i hi, hget k hkl]
          intro he
          have := hsort k i hkl hi hki
          rw [Option.some.inj he, cmpSt_lt] at this; omega
    · rintro ⟨h0, h1⟩
      exact ⟨x.toNat, hok _ h1.1, by simp; omega⟩
theorem twice1 {F : Nat} (hF : 1000 ≤ F) {l : List GStamp} {cl : List Int} {t : GTape} {a : List Int} (hl : l.length = cl.length) (ha : IsCanon l cl a) (hal : a.length ≤ 100) :
    ∀ n (k : Int) (m : List GStamp) (c d : List Int), (∃ j : Nat, k = j ∧ j ≤ a.length ∧ m = (a.take j).map (sat l) ∧ c = (a.take j).map (cat cl) ∧ d = (List.range j).map Int.ofNat) → (a.length - k.toNat) < n → ∃ r, law02_StampTwice_L1 F (l, cl, t) (a, 0) n k m c d = some r ∧ r = true := by
  refine loop4 (L := law02_StampTwice_L1 F (l, cl, t) (a, 0)) (B := law02_StampTwice_L1_B F (l, cl, t) (a, 0)) (fun _ => rfl) _ (fun (k : Int) (_ : List GStamp) (_ : List Int) (_ : List Int) => a.length - k.toNat) _ ?_
  rintro rec k m c d ⟨j, rfl, hj, rfl, rfl, rfl⟩ hrec
  unfold law02_StampTwice_L1_B
  by_cases hlt : j < a.length
  · have d1 : decide ((j : Int) < (a.length : Int)) = true := by simp; exact hlt
    have cj := (ha.mem a[j]).1 (by simp)
    have vj : vat l a[j] := ⟨cj.1, cj.2.1⟩
    have lj := vat_lt vj
    have n1 : ¬ a[j] < 0 := by omega
    have n2 : ¬ a[j] ≥ (l.length : Int) := by omega
    have hg : (sat l a[j]).good = true := by
      obtain ⟨y, e1, e2⟩ := cj.2.1
      rw [vat_get vj] at e1; cases e1; exact e2
    simp only [d1, if_true, idx_lt hlt, Option.bind_some, n1, n2, decide_false, Bool.false_eq_true, if_false, vat_idx vj, valid_s, hg, Bool.not_true]
    refine twice2 hF hl ha hal hlt ?_ F 0 ⟨0, rfl, by omega⟩ (by simp; omega)
    rw [i64_of (by omega) (by omega)]
    refine hrec _ _ _ _ ⟨j + 1, by omega, by omega, ?_, ?_, ?_⟩ (by simp; omega)
    · rw [List.take_succ_eq_append_getElem hlt, List.map_append]; rfl
    · rw [List.take_succ_eq_append_getElem hlt, List.map_append]; rfl
    · rw [List.range_succ]; simp
  · have d1 : decide ((j : Int) < (a.length : Int)) = false := by simp; omega
    have hja : j = a.length := by omega
    subst hja
    simp only [d1, Bool.false_eq_true, if_false, List.take_length]
    have h1 := (twice_canon hl ha).unique (canonL_is _ _)
    rw [canonical_e (by omega) (by simp; omega) (by simp; omega), canonS_small (by simp) (by simp; omega), ← h1]
    simp only [Option.bind_some, beq_self_eq_true, if_true]
    rw [same_s (by simp; omega) (by simp; omega), awake_s (by omega)]
    exact ⟨true, by simp, rfl⟩
theorem law_StampTwice (t : List Int) : ∃ F, law02_StampTwice F t = some true := by
  refine ⟨1000, ?_⟩
  obtain ⟨t0, h1, h2⟩ := new_s t
  obtain ⟨l, cl, t1, h3, h4, h5, h6⟩ := events_s (F := 1000) h2 12 8 (by omega) (by omega) (by omega)
  have hcl := canonL_len l cl
  simp only [law02_StampTwice, h1, Option.bind_some]
  rw [show (12 : Int) = ((12 : Nat) : Int) from rfl, h3]
  simp only [Option.bind_some]
  rw [canonical_e (by omega) (by omega) (by omega), canonS_small h5 (by omega)]
  simp only [Option.bind_some, bne_self_eq_false, Bool.false_eq_true, if_false]
  obtain ⟨r, h7, rfl⟩ := twice1 (F := 1000) (by omega) (t := t1) h5 (canonL_is l cl) (by omega) 1000 0 [] [] [] ⟨0, rfl, by omega, by simp, by simp, by simp⟩ (by simp; omega)
  exact h7
end Go.Sh
