/- Plain laws, part 5: stamp.Canonical and stamp.Known. -/
import Derived.Test.YtapnjifcfljmmaaPd
set_option linter.unusedVariables false
set_option linter.unusedSimpArgs false
namespace Go.Sh
open Go.L

theorem counts_iff {l : List GStamp} {cl : List Int} {gs : List stamp_group} (hl : l.length = cl.length) (hG : AllGroups l cl gs) (i : Int) : (0 ≤ i ∧ counts l cl i.toNat) ↔ ∃ g ∈ gs, g.disputed = false ∧ g.first = i := by
  have hdisp : ∀ a b : Int, vat l a → vat l b → (disp l cl a.toNat b.toNat ↔ cmpId (sat l a) (sat l b) = 0 ∧ ((sat l a).Time ≠ (sat l b).Time ∨ cat cl a ≠ cat cl b)) := fun a b ha hb => by
    unfold disp sid
    rw [cmpId_zero, vat_get ha, vat_get hb, vat_cget ha hl, vat_cget hb hl]
    simp only [Option.some.injEq]
    constructor
    · rintro ⟨x, y, c, d, rfl, rfl, rfl, rfl, h⟩; exact h
    · intro h; exact ⟨_, _, _, _, rfl, rfl, rfl, rfl, h⟩
  have heq : ∀ x y : GStamp, cmpId x y = 0 → (x = y ↔ x.Time = y.Time) := fun x y h => by
    rw [cmpId_zero] at h
    cases x; cases y; simp at h ⊢; simp [h]
  constructor
  · rintro ⟨h0, hc⟩
    have hv : vat l i := ⟨h0, hc.1⟩
    obtain ⟨g, hg, h1, h2⟩ := hG.each i hv
    have vg := hG.first g hg
    have hnd : ∀ t, vat l t → ¬ (cmpId (sat l i) (sat l t) = 0 ∧ ((sat l i).Time ≠ (sat l t).Time ∨ cat cl i ≠ cat cl t)) := fun t ht h => (hc.2 t.toNat ht.2).1 ((hdisp i t hv ht).2 h)
    have h1' : cmpId (sat l i) (sat l g.first) = 0 := by rw [cmpId_zero] at *; omega
    have hgi : g.first = i := by
      by_cases hlt : g.first < i
      · have a1 := hnd _ vg
        have a2 : sat l g.first = sat l i := (heq _ _ h1).2 (Decidable.byContradiction fun hne => a1 ⟨h1', .inl fun h => hne h.symm⟩)
        have a3 := (hc.2 g.first.toNat vg.2).2 (by have := vg.1; omega)
        rw [vat_get vg, vat_get hv, a2] at a3
        exact absurd rfl a3
      · omega
    refine ⟨g, hg, ?_, hgi⟩
    cases hd : g.disputed with
    | false => rfl
    | true =>
      obtain ⟨t, ht, b1, b2⟩ := (hG.dsp g hg).1 hd
      rw [hgi] at b1 b2
      refine absurd ?_ (hnd t ht)
      refine ⟨b1, ?_⟩
      rcases b2 with b2 | b2
      · exact .inl fun h => b2 ((heq _ _ b1).2 h)
      · exact .inr b2
  · rintro ⟨g, hg, hd, rfl⟩
    have vg := hG.first g hg
    refine ⟨vg.1, vg.2, fun k hk => ?_⟩
    have vk : vat l (k : Int) := ⟨by omega, by simpa using hk⟩
    constructor
    · intro h
      have h' := (hdisp g.first k vg vk).1 (by simpa using h)
      have : g.disputed = true := (hG.dsp g hg).2 ⟨k, vk, h'.1, by
        rcases h'.2 with h | h
        · exact .inl fun he => h (by rw [he])
        · exact .inr h⟩
      rw [hd] at this; cases this
    · intro hlt he
      have he' : sat l k = sat l g.first := by
        have := vat_get vk
        simp only [Int.toNat_natCast] at this
        rw [this, vat_get vg] at he; exact Option.some.inj he
      obtain ⟨g', hg', h1, h2⟩ := hG.each k vk
      have hgg : cmpId (sat l g'.first) (sat l g.first) = 0 := by rw [← he']; exact h1
      have : g' = g := by
        by_cases h : g' = g
        · exact h
        · have ha := hG.asc
          have : cmpId (sat l g'.first) (sat l g.first) < 0 ∨ cmpId (sat l g.first) (sat l g'.first) < 0 := by
            obtain ⟨a, ha'⟩ := List.mem_iff_getElem.1 hg'
            obtain ⟨b, hb'⟩ := List.mem_iff_getElem.1 hg
            rw [List.pairwise_iff_getElem] at ha
            obtain ⟨la, rfl⟩ := ha'
            obtain ⟨lb, rfl⟩ := hb'
            rcases Nat.lt_trichotomy a b with h3 | h3 | h3
            · exact .inl (ha a b la lb h3)
            · subst h3; exact absurd rfl h
            · exact .inr (ha b a lb la h3)
          rw [cmpId_zero] at hgg; rw [cmpId_lt, cmpId_lt] at this; omega
      subst this
      have := vg.1; omega
theorem canon1_s {F : Nat} (hF : 10 ≤ F) {l : List GStamp} {i j : Int} (hi : vat l i) (hj : vat l j) : stamp_Canonical_1 F i j l = some (cmpSt (sat l i) (sat l j)) := by
  simp only [stamp_Canonical_1, vat_idx hi, vat_idx hj, stampCompare_s hF, Option.bind_some]
def firsts (gs : List stamp_group) : List Int := (gs.filter fun g => !g.disputed).map (·.first)
theorem firsts_len (gs : List stamp_group) : (firsts gs).length ≤ gs.length := by
  unfold firsts; rw [List.length_map]; exact List.length_filter_le _ _
theorem canonical_loop {F : Nat} (hF : 10 ≤ F) {l : List GStamp} {cl : List Int} (hl : l.length = cl.length) (hb : l.length < 1000000) {gs : List stamp_group} (hG : AllGroups l cl gs) :
    ∀ n (k : Int) (acc : List Int), (∃ p s, gs = p ++ s ∧ k = (p.length : Int) ∧ acc = firsts p) → (gs.length - k.toNat) < n → ∃ r, stamp_Canonical_L1 F l gs n k acc = some r ∧ Canon l cl r := by
  refine loop2 (L := stamp_Canonical_L1 F l gs) (B := stamp_Canonical_L1_B F l gs) (fun _ => rfl) _ (fun (k : Int) (_ : List Int) => gs.length - k.toNat) _ ?_
  rintro rec k acc ⟨p, s, hps, rfl, rfl⟩ hrec
  unfold stamp_Canonical_L1_B
  have hgl := hG.len
  have hpl : p.length ≤ gs.length := by rw [hps]; simp
  have hfl := firsts_len p
  cases s with
  | cons g s =>
    have d1 : decide ((p.length : Int) < (gs.length : Int)) = true := by rw [hps]; exact dlt p g s
    have hix : idx gs (p.length : Int) = some g := by rw [hps]; exact idx_at p g s
    have hm : gs.length - ((p ++ [g]).length : Int).toNat < gs.length - (p.length : Int).toNat := by
      have := congrArg List.length hps; simp at this ⊢; omega
    simp only [d1, if_true, hix, Option.bind_some, nxt p g (by omega)]
    cases hd : g.disputed with
    | false =>
      simp only [Bool.not_false, if_true]
      rw [app_of (by simp; omega)]
      exact hrec _ _ ⟨p ++ [g], s, by simp [hps], rfl, by simp [firsts, hd]⟩ hm
    | true =>
      simp only [Bool.not_true, Bool.false_eq_true, if_false]
      exact hrec _ _ ⟨p ++ [g], s, by simp [hps], rfl, by simp [firsts, hd]⟩ hm
  | nil =>
    have hpg : gs = p := by simpa using hps
    subst hpg
    have d1 : decide ((gs.length : Int) < (gs.length : Int)) = false := by simp
    simp only [d1, Bool.false_eq_true, if_false]
    have hmem : ∀ i, i ∈ firsts gs ↔ 0 ≤ i ∧ counts l cl i.toNat := fun i => by
      rw [counts_iff hl hG]
      simp only [firsts, List.mem_map, List.mem_filter, Bool.not_eq_eq_eq_not, Bool.not_true]
      constructor
      · rintro ⟨g, ⟨h1, h2⟩, h3⟩; exact ⟨g, h1, h2, h3⟩
      · rintro ⟨g, h1, h2, h3⟩; exact ⟨g, ⟨h1, h2⟩, h3⟩
    have hvat : ∀ i ∈ firsts gs, vat l i := fun i hi => by have := (hmem i).1 hi; exact ⟨this.1, this.2.1⟩
    have hnd : (firsts gs).Pairwise fun a b => a ≠ b := by
      unfold firsts
      rw [List.pairwise_map]
      refine (hG.asc.filter _).imp fun {a b} h he => ?_
      rw [he, cmpId_lt] at h; omega
    have hlt : ∀ i j, vat l i → vat l j → (cmpSt (sat l i) (sat l j) < 0 ↔ ltAt l i j) := fun i j hi hj => by
      unfold ltAt; rw [vat_get hi, vat_get hj]
      constructor
      · intro h; exact ⟨_, _, rfl, rfl, h⟩
      · rintro ⟨x, y, h1, h2, h3⟩; cases h1; cases h2; exact h3
    obtain ⟨a, h1, h2, h3⟩ := sortF_by (c := fun a0 a1 => stamp_Canonical_1 F a0 a1 l) (xs := firsts gs) (fun i j => cmpSt (sat l i) (sat l j)) (by omega) (fun x hx y hy => canon1_s hF (hvat x hx) (hvat y hy)) (fun x _ => by rw [cmpSt_lt]; omega)
      (fun x _ y _ z _ p q => by rw [cmpSt_lt] at *; omega) (fun x _ y _ z _ p q => by rw [cmpSt_lt] at *; omega) (List.Pairwise.imp_of_mem (fun {x y} hx hy hne => by
        have cx := (hmem x).1 hx
        have cy := (hmem y).1 hy
        have := counts_tot cx.2 cy.2 (fun h => hne (by omega))
        rw [Int.toNat_of_nonneg cx.1, Int.toNat_of_nonneg cy.1, ← hlt x y (hvat x hx) (hvat y hy), ← hlt y x (hvat y hy) (hvat x hx)] at this
        exact this) hnd)
    have hcan : IsCanon l cl a := ⟨List.Pairwise.imp_of_mem (fun {x y} hx hy h => (hlt x y (hvat x (h2.mem_iff.1 hx)) (hvat y (h2.mem_iff.1 hy))).1 h) h3, fun i => by rw [h2.mem_iff]; exact hmem i⟩
    have hlen : (firsts gs).length = a.length := h2.length_eq.symm
    by_cases h300 : 300 < a.length
    · have : decide (((firsts gs).length : Int) > 300) = true := by simp; omega
      simp only [this, if_true]
      refine ⟨_, rfl, ?_⟩
      unfold Canon; rw [if_neg (by omega)]
      exact ⟨a, hcan, by rw [if_pos h300]⟩
    · have : decide (((firsts gs).length : Int) > 300) = false := by simp; omega
      simp only [this, Bool.false_eq_true, if_false, h1, Option.bind_some]
      refine ⟨_, rfl, ?_⟩
      unfold Canon; rw [if_neg (by omega)]
      exact ⟨a, hcan, by rw [if_neg h300]⟩
theorem canonical_s {F : Nat} (hF : 10 ≤ F) {l : List GStamp} {cl : List Int} (hb : l.length < 1000000) (hFl : l.length < F) : ∃ r, stamp_Canonical F l cl = some r ∧ Canon l cl r := by
  unfold stamp_Canonical
  by_cases hl : l.length = cl.length
  · have : ((l.length : Int) != (cl.length : Int)) = false := by simp; omega
    simp only [this, Bool.false_eq_true, if_false]
    obtain ⟨gs, h1, h2⟩ := groups_s hF hl hb hFl
    simp only [h1, Option.bind_some]
    have := h2.len
    exact canonical_loop hF hl hb h2 F 0 [] ⟨[], gs, rfl, rfl, rfl⟩ (by simp; omega)
  · have : ((l.length : Int) != (cl.length : Int)) = true := by simp; omega
    simp only [this, if_true]
    exact ⟨_, rfl, by unfold Canon; rw [if_pos hl]⟩
end Go.Sh
