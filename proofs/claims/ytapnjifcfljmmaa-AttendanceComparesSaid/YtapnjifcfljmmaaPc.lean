/- Plain laws, part 3: the reference's Counts and Canonical. -/
import Derived.Test.YtapnjifcfljmmaaPb
set_option linter.unusedVariables false
set_option linter.unusedSimpArgs false
namespace Go.Sh
open Go.L

theorem okAt_lt {l : List GStamp} {i : Nat} (h : i < l.length) : okAt l i ↔ l[i].good = true := by
  unfold okAt; simp [h]
theorem disp_lt {l : List GStamp} {cl : List Int} {i k : Nat} (h : i < l.length) (hk : k < l.length) (hl : l.length = cl.length) : disp l cl i k ↔ sid l[i] l[k] ∧ (l[i].Time ≠ l[k].Time ∨ cl[i] ≠ cl[k]) := by
  unfold disp
  have h' : i < cl.length := by omega
  have hk' : k < cl.length := by omega
  simp only [List.getElem?_eq_getElem, h, hk, h', hk', Option.some.injEq]
  constructor
  · rintro ⟨x, y, c, d, rfl, rfl, rfl, rfl, h1, h2⟩; exact ⟨h1, h2⟩
  · rintro ⟨h1, h2⟩; exact ⟨_, _, _, _, rfl, rfl, rfl, rfl, h1, h2⟩
theorem okAt_ge {l : List GStamp} {i : Nat} (h : l.length ≤ i) : ¬ okAt l i := by
  rintro ⟨x, h1, _⟩; rw [List.getElem?_eq_none h] at h1; cases h1

theorem counts_loop {l : List GStamp} {cl : List Int} {i : Nat} (hi : i < l.length) (hl : l.length = cl.length) (hb : l.length < 1000000) (hgi : l[i].good = true) :
    ∀ n (k : Int), (∃ j : Nat, k = j ∧ j ≤ l.length ∧ ∀ q, q < j → okAt l q → ¬ disp l cl i q ∧ (q < i → l[q]? ≠ l[i]?)) → (l.length - k.toNat) < n → ∃ r, ref02_Counts_L1 l cl i n k = some r ∧ (r = true ↔ counts l cl i) := by
  refine loop1 (L := ref02_Counts_L1 l cl i) (B := ref02_Counts_L1_B l cl i) (fun _ => rfl) _ (fun k : Int => l.length - k.toNat) _ ?_
  rintro rec k ⟨j, rfl, hj, hI⟩ hrec
  have hi' : i < cl.length := by omega
  by_cases hlt : j < l.length
  · have hj' : j < cl.length := by omega
    have d1 : decide ((j : Int) < (l.length : Int)) = true := by simp; exact hlt
    have hnext : i64 ((j : Int) + 1) = ((j + 1 : Nat) : Int) := by rw [i64_of (by omega) (by omega)]; rfl
    have hI' : (okAt l j → ¬ disp l cl i j ∧ (j < i → l[j]? ≠ l[i]?)) → ∃ r, rec (i64 ((j : Int) + 1)) = some r ∧ (r = true ↔ counts l cl i) := fun h => by
      rw [hnext]
      refine hrec _ ⟨j + 1, rfl, by omega, fun q hq => ?_⟩ (by simp; omega)
      rcases Nat.lt_succ_iff_lt_or_eq.1 hq with h1 | rfl
      · exact hI q h1
      · exact h
    unfold ref02_Counts_L1_B
    simp only [d1, if_true, idx_lt hlt, idx_lt hi, idx_lt hj', idx_lt hi', refValid_s, Option.bind_some, ref02_disputes]
    by_cases hg : l[j].good = true
    · have hok : okAt l j := (okAt_lt hlt).2 hg
      simp only [hg, if_true]
      by_cases hd : ((l[i].Source == l[j].Source) && ((l[i].Seq == l[j].Seq) && ((l[i].Time != l[j].Time) || (cl[i] != cl[j])))) = true
      · simp only [hd, if_true, Option.bind_some]
        refine ⟨false, rfl, ?_⟩
        simp only [Bool.false_eq_true, false_iff]
        intro hc
        refine (hc.2 j hok).1 ((disp_lt hi hlt hl).2 ?_)
        simp at hd; unfold sid; exact ⟨⟨hd.1, hd.2.1⟩, hd.2.2⟩
      · have hd' : ¬ disp l cl i j := fun h => hd (by
          have := (disp_lt hi hlt hl).1 h; unfold sid at this; simp [this])
        simp only [bF hd, Bool.false_eq_true, if_false]
        by_cases hji : j < i
        · have : decide ((j : Int) < (i : Int)) = true := by simp; exact hji
          simp only [this, if_true, Option.bind_some]
          by_cases he : l[j] = l[i]
          · simp only [he, decide_true, if_true]
            refine ⟨false, rfl, ?_⟩
            simp only [Bool.false_eq_true, false_iff]
            intro hc
            exact (hc.2 j hok).2 hji (by simp [hlt, hi, he])
          · simp only [he, decide_false, Bool.false_eq_true, if_false]
            exact hI' fun _ => ⟨hd', fun _ h => he (by simpa [hlt, hi] using h)⟩
        · have : decide ((j : Int) < (i : Int)) = false := by simp; omega
          simp only [this, Bool.false_eq_true, if_false, Option.bind_some]
          exact hI' fun _ => ⟨hd', fun h => absurd h hji⟩
    · simp only [bF hg, Bool.false_eq_true, if_false, Option.bind_some]
      exact hI' fun h => absurd ((okAt_lt hlt).1 h) hg
  · have d1 : decide ((j : Int) < (l.length : Int)) = false := by simp; omega
    unfold ref02_Counts_L1_B
    simp only [d1, Bool.false_eq_true, if_false]
    refine ⟨true, rfl, ?_⟩
    simp only [true_iff]
    refine ⟨(okAt_lt hi).2 hgi, fun k hk => hI k ?_ hk⟩
    by_cases hkl : k < l.length
    · omega
    · exact absurd hk (okAt_ge (by omega))
theorem refCounts_s {F : Nat} {l : List GStamp} {cl : List Int} {i : Nat} (hi : i < l.length) (hl : l.length = cl.length) (hb : l.length < 1000000) (hF : l.length < F) : ∃ b, ref02_Counts F l cl i = some b ∧ (b = true ↔ counts l cl i) := by
  unfold ref02_Counts
  simp only [idx_lt hi, refValid_s, Option.bind_some]
  by_cases hg : l[i].good = true
  · simp only [hg, Bool.not_true, Bool.false_eq_true, if_false]
    exact counts_loop hi hl hb hg F _ ⟨0, rfl, by omega, fun q hq => by omega⟩ (by simpa using hF)
  · simp only [bF hg, Bool.not_false, if_true]
    refine ⟨false, rfl, ?_⟩
    simp only [Bool.false_eq_true, false_iff]
    exact fun h => hg ((okAt_lt hi).1 h.1)
/-- no two counting events have one stamp -/
theorem counts_inj {l : List GStamp} {cl : List Int} {i k : Nat} (hi : counts l cl i) (hk : counts l cl k) (h : l[i]? = l[k]?) : i = k := by
  rcases Nat.lt_trichotomy i k with h1 | h1 | h1
  · exact absurd h ((hk.2 i hi.1).2 h1)
  · exact h1
  · exact absurd h.symm ((hi.2 k hk.1).2 h1)
theorem counts_lt {l : List GStamp} {cl : List Int} {i : Nat} (h : counts l cl i) : i < l.length := by
  obtain ⟨⟨x, h1, _⟩, _⟩ := h
  exact (List.getElem?_eq_some_iff.1 h1).1
theorem counts_tot {l : List GStamp} {cl : List Int} {i k : Nat} (hi : counts l cl i) (hk : counts l cl k) (h : i ≠ k) : ltAt l i k ∨ ltAt l k i := by
  have h1 := counts_lt hi
  have h2 := counts_lt hk
  have h3 : l[i] ≠ l[k] := fun he => h (counts_inj hi hk (by simp [h1, h2, he]))
  have h4 : ¬ cmpSt l[i] l[k] = 0 := fun he => h3 (cmpSt_zero.1 he)
  rcases Int.lt_or_gt_of_ne h4 with h5 | h5
  · exact .inl ⟨l[i], l[k], by simp [h1], by simp [h2], h5⟩
  · exact .inr ⟨l[k], l[i], by simp [h2], by simp [h1], cmpSt_gt.1 h5⟩

/-- the inner loop looks for the place -/
theorem refPlace {l : List GStamp} {cl : List Int} {out : List Int} {i : Nat} (hi : i < l.length) (hlen : out.length < 1000000) (hout : ∀ a ∈ out, 0 ≤ a ∧ a.toNat < l.length) (hs : out.Pairwise (ltAt l)) {rec1 : List Int → Int → Option (List Int × Int)} {Post : List Int × Int → Prop}
    (h : ∀ p s, out = p ++ s → (∀ a ∈ s, ltAt l i a) → (∀ a, p.getLast? = some a → ¬ ltAt l i a) → ∃ r, rec1 (p ++ (i : Int) :: s) (i64 ((i : Int) + 1)) = some r ∧ Post r) :
    ∀ n (k : Int), (∃ p s, out = p ++ s ∧ k = (p.length : Int) ∧ ∀ a ∈ s, ltAt l i a) → k.toNat < n → ∃ r, ref02_Canonical_L2 rec1 l out i n k = some r ∧ Post r := by
  refine loop1 (L := ref02_Canonical_L2 rec1 l out i) (B := ref02_Canonical_L2_B rec1 l out i) (fun _ => rfl) _ (fun k : Int => k.toNat) _ ?_
  rintro rec k ⟨p, s, rfl, rfl, hgt⟩ hrec
  unfold ref02_Canonical_L2_B
  have fin : (∀ a, p.getLast? = some a → ¬ ltAt l i a) → ∃ r, ((slc (p ++ s) 0 (p.length : Int)).bind fun v16 => (app [] v16).bind fun v17 => (app v17 [(i : Int)]).bind fun v18 => (slc (p ++ s) (p.length : Int) ((p ++ s).length : Int)).bind fun v19 => (app v18 v19).bind fun v20 => rec1 v20 (i64 ((i : Int) + 1))) = some r ∧ Post r := fun hlast => by
    simp only [List.length_append] at hlen
    rw [slc_take (by simp), slc_drop (by simp)]
    simp only [Option.bind_some, List.take_left, List.drop_left]
    rw [app_of (by simp; omega)]
    simp only [Option.bind_some, List.nil_append]
    rw [app_of (by simp; omega)]
    simp only [Option.bind_some]
    rw [app_of (by simp; omega)]
    simp only [Option.bind_some, List.append_assoc, List.singleton_append]
    exact h p s rfl hgt hlast
  rcases List.eq_nil_or_concat p with rfl | ⟨q, a, rfl⟩
  · simp only [List.length_nil, Int.ofNat_zero, gt_iff_lt, Int.lt_irrefl, decide_false, Bool.false_eq_true, if_false, Option.bind_some]
    exact fin (by simp)
  · rw [List.concat_eq_append] at *
    have ha := hout a (by simp)
    have d1 : decide (((q ++ [a]).length : Int) > 0) = true := by simp only [List.length_append, List.length_singleton, decide_eq_true_eq]; omega
    have hw : i64 (((q ++ [a]).length : Int) - 1) = (q.length : Int) := by
      simp only [List.length_append, List.length_singleton] at hlen ⊢
      rw [i64_of (by omega) (by omega)]; omega
    have hq : idx (q ++ [a] ++ s) (q.length : Int) = some a := by rw [List.append_assoc]; exact idx_at q a s
    have hx : idx l a = some l[a.toNat] := by rw [idx_some]; exact ⟨ha.1, by simp [ha.2]⟩
    simp only [d1, if_true, hw, hq, hx, idx_lt hi, refCompare_s, Option.bind_some]
    by_cases hc : cmpSt l[a.toNat] l[i] > 0
    · simp only [hc, decide_true, if_true]
      have hia : ltAt l i a := ⟨l[i], l[a.toNat], by simp [hi], by simp [ha.2], cmpSt_gt.1 hc⟩
      refine hrec _ ⟨q, a :: s, by simp, rfl, fun b hb => ?_⟩ (by simp)
      rcases List.mem_cons.1 hb with rfl | hb
      · exact hia
      · exact hgt b hb
    · simp only [hc, decide_false, Bool.false_eq_true, if_false]
      refine fin fun b hb => ?_
      simp at hb; subst hb
      rintro ⟨x, y, h1, h2, h3⟩
      simp [hi] at h1
      simp [ha.2] at h2
      subst h1; subst h2
      exact hc (cmpSt_gt.2 h3)
theorem refCanon_loop {F : Nat} {l : List GStamp} {cl : List Int} (hl : l.length = cl.length) (hb : l.length < 1000000) (hF : l.length < F) :
    ∀ n (out : List Int) (k : Int), (∃ j : Nat, k = j ∧ j ≤ l.length ∧ out.length ≤ j ∧ out.Pairwise (ltAt l) ∧ ∀ i, i ∈ out ↔ 0 ≤ i ∧ i.toNat < j ∧ counts l cl i.toNat) → (l.length - k.toNat) < n → ∃ r, ref02_Canonical_L1 F l cl n out k = some r ∧ Canon l cl r := by
  refine loop2 (L := ref02_Canonical_L1 F l cl) (B := ref02_Canonical_L1_B F l cl) (fun _ => rfl) _ (fun (_ : List Int) (k : Int) => l.length - k.toNat) _ ?_
  rintro rec out k ⟨j, rfl, hj, hlen, hs, hm⟩ hrec
  unfold ref02_Canonical_L1_B
  by_cases hlt : j < l.length
  · have d1 : decide ((j : Int) < (l.length : Int)) = true := by simp; exact hlt
    have hnext : i64 ((j : Int) + 1) = ((j + 1 : Nat) : Int) := by rw [i64_of (by omega) (by omega)]; rfl
    obtain ⟨b, h1, h2⟩ := refCounts_s (F := F) hlt hl hb hF
    simp only [d1, if_true, h1, Option.bind_some]
    cases b with
    | false =>
      simp only [Bool.not_false, if_true]
      have hnc : ¬ counts l cl j := fun h => by simpa using h2.2 h
      rw [hnext]
      refine hrec _ _ ⟨j + 1, rfl, by omega, by omega, hs, fun i => ?_⟩ (by simp; omega)
      rw [hm]
      constructor
      · rintro ⟨a1, a2, a3⟩; exact ⟨a1, by omega, a3⟩
      · rintro ⟨a1, a2, a3⟩
        refine ⟨a1, ?_, a3⟩
        rcases Nat.lt_succ_iff_lt_or_eq.1 a2 with h | h
        · exact h
        · rw [h] at a3; exact absurd a3 hnc
    | true =>
      simp only [Bool.not_true, Bool.false_eq_true, if_false]
      have hc : counts l cl j := h2.1 rfl
      refine refPlace (cl := cl) hlt (by omega) (fun a ha => ?_) hs ?_ F _ ⟨out, [], by simp, rfl, by simp⟩ (by simp; omega)
      · have := (hm a).1 ha; exact ⟨this.1, by omega⟩
      · rintro p s rfl hgt hlast
        rw [hnext]
        have hne : ∀ a ∈ p ++ s, a ≠ (j : Int) := fun a ha h => by have := (hm a).1 ha; omega
        have hpl : ∀ a ∈ p, ltAt l a j := by
          intro a ha
          have hlst : ∀ b, p.getLast? = some b → ltAt l b j := fun b hb => by
            have hbm : b ∈ p ++ s := by simp [List.mem_of_getLast? hb]
            have hbc := (hm b).1 hbm
            have := counts_tot hbc.2.2 hc (fun h => by have := hbc.2.1; omega)
            rw [Int.toNat_of_nonneg hbc.1] at this
            exact this.resolve_right (hlast b hb)
          rcases List.eq_nil_or_concat p with rfl | ⟨q, b, rfl⟩
          · simp at ha
          · rw [List.concat_eq_append] at *
            have hb := hlst b (by simp)
            rcases List.mem_append.1 ha with ha | ha
            · have : ltAt l a b := by
                rw [List.append_assoc, List.pairwise_append] at hs
                exact hs.2.2 a ha b (by simp)
              exact ltAt_trans l a b j this hb
            · simp at ha; subst ha; exact hb
        refine hrec _ _ ⟨j + 1, rfl, by omega, by simp at hlen ⊢; omega, ?_, fun i => ?_⟩ (by simp; omega)
        · rw [List.pairwise_append] at hs ⊢
          refine ⟨hs.1, ?_, fun a ha b hb => ?_⟩
          · rw [List.pairwise_cons]; exact ⟨hgt, hs.2.1⟩
          · rcases List.mem_cons.1 hb with rfl | hb
            · exact hpl a ha
            · exact hs.2.2 a ha b hb
        · have := hm i
          simp only [List.mem_append, List.mem_cons] at this ⊢
          constructor
          · rintro (h | h | h)
            · have := this.1 (.inl h); exact ⟨this.1, by omega, this.2.2⟩
            · subst h; exact ⟨by omega, by simp, by simpa using hc⟩
            · have := this.1 (.inr h); exact ⟨this.1, by omega, this.2.2⟩
          · rintro ⟨a1, a2, a3⟩
            by_cases hij : i = (j : Int)
            · exact .inr (.inl hij)
            · rcases this.2 ⟨a1, by omega, a3⟩ with h | h
              · exact .inl h
              · exact .inr (.inr h)
  · have d1 : decide ((j : Int) < (l.length : Int)) = false := by simp; omega
    simp only [d1, Bool.false_eq_true, if_false]
    have hcan : IsCanon l cl out := ⟨hs, fun i => by
      rw [hm]
      constructor
      · rintro ⟨a1, _, a3⟩; exact ⟨a1, a3⟩
      · rintro ⟨a1, a3⟩; exact ⟨a1, by have := counts_lt a3; omega, a3⟩⟩
    by_cases h3 : 300 < out.length
    · have : decide ((out.length : Int) > 300) = true := by simp; omega
      simp only [this, if_true]
      refine ⟨_, rfl, ?_⟩
      unfold Canon; rw [if_neg (by omega)]
      exact ⟨out, hcan, by rw [if_pos h3]⟩
    · have : decide ((out.length : Int) > 300) = false := by simp; omega
      simp only [this, Bool.false_eq_true, if_false]
      refine ⟨_, rfl, ?_⟩
      unfold Canon; rw [if_neg (by omega)]
      exact ⟨out, hcan, by rw [if_neg h3]⟩
theorem refCanonical_s {F : Nat} {l : List GStamp} {cl : List Int} (hb : l.length < 1000000) (hF : l.length < F) : ∃ r, ref02_Canonical F l cl = some r ∧ Canon l cl r := by
  unfold ref02_Canonical
  by_cases hl : l.length = cl.length
  · have : ((cl.length : Int) != (l.length : Int)) = false := by simp; omega
    simp only [this, Bool.false_eq_true, if_false]
    exact refCanon_loop hl hb hF F _ _ ⟨0, rfl, by omega, by simp, by simp, fun i => by simp⟩ (by simpa using hF)
  · have : ((cl.length : Int) != (l.length : Int)) = true := by simp; omega
    simp only [this, if_true]
    exact ⟨_, rfl, by unfold Canon; rw [if_pos hl]⟩
end Go.Sh
