/- Plain laws, part 4: stamp.groups and stamp.Canonical. -/
import Derived.Test.YtapnjifcfljmmaaPc
set_option linter.unusedVariables false
set_option linter.unusedSimpArgs false
namespace Go.Sh
open Go.L

def sat (l : List GStamp) (i : Int) : GStamp := l.getD i.toNat default
def cat (cl : List Int) (i : Int) : Int := cl.getD i.toNat 0
/-- i is the index of a valid event -/
def vat (l : List GStamp) (i : Int) : Prop := 0 ≤ i ∧ okAt l i.toNat
theorem vat_lt {l : List GStamp} {i : Int} (h : vat l i) : i.toNat < l.length := by
  obtain ⟨_, x, h1, _⟩ := h; exact (List.getElem?_eq_some_iff.1 h1).1
theorem vat_idx {l : List GStamp} {i : Int} (h : vat l i) : idx l i = some (sat l i) := by
  have := vat_lt h
  rw [idx_some]; exact ⟨h.1, by simp [sat, this]⟩
theorem vat_cidx {l : List GStamp} {cl : List Int} {i : Int} (h : vat l i) (hl : l.length = cl.length) : idx cl i = some (cat cl i) := by
  have := vat_lt h
  have : i.toNat < cl.length := by omega
  rw [idx_some]; exact ⟨h.1, by simp [cat, this]⟩
theorem vat_get {l : List GStamp} {i : Int} (h : vat l i) : l[i.toNat]? = some (sat l i) := by
  have := vat_lt h; simp [sat, this]
theorem vat_cget {l : List GStamp} {cl : List Int} {i : Int} (h : vat l i) (hl : l.length = cl.length) : cl[i.toNat]? = some (cat cl i) := by
  have := vat_lt h
  have : i.toNat < cl.length := by omega
  simp [cat, this]
def diff (l : List GStamp) (cl : List Int) (i k : Int) : Prop := sat l i ≠ sat l k ∨ cat cl i ≠ cat cl k
/-- the order of the groups' sort -/
def cmpIx (l : List GStamp) (i j : Int) : Int := if cmpId (sat l i) (sat l j) ≠ 0 then cmpId (sat l i) (sat l j) else cmpS i j
theorem cmpIx_lt {l : List GStamp} {i j : Int} : cmpIx l i j < 0 ↔ ((sat l i).Source < (sat l j).Source ∨ (sat l i).Source = (sat l j).Source ∧ ((sat l i).Seq < (sat l j).Seq ∨ (sat l i).Seq = (sat l j).Seq ∧ i < j)) := by
  have h1 := @cmpId_lt (sat l i) (sat l j)
  have h2 := @cmpId_zero (sat l i) (sat l j)
  have h3 := @cmpS_lt i j
  unfold cmpIx; split <;> omega
theorem groups1_s {F : Nat} (hF : 10 ≤ F) {l : List GStamp} {i j : Int} (hi : vat l i) (hj : vat l j) : stamp_groups_1 F i j l = some (cmpIx l i j) := by
  simp only [stamp_groups_1, vat_idx hi, vat_idx hj, compareId_s hF, compare_s, Option.bind_some]
  rw [or_s (by simp) (by simp; omega)]
  simp only [Option.bind_some, orS, cmpIx]
  repeat' split
  all_goals simp_all

structure Groups (l : List GStamp) (cl : List Int) (T : List Int) (gs : List stamp_group) : Prop where
  first : ∀ g ∈ gs, g.first ∈ T
  each : ∀ t ∈ T, ∃ g ∈ gs, cmpId (sat l g.first) (sat l t) = 0 ∧ g.first ≤ t
  dsp : ∀ g ∈ gs, (g.disputed = true ↔ ∃ t ∈ T, cmpId (sat l g.first) (sat l t) = 0 ∧ diff l cl g.first t)
  asc : gs.Pairwise fun g h => cmpId (sat l g.first) (sat l h.first) < 0
  len : gs.length ≤ T.length
  last : ∀ g, gs.getLast? = some g → ∀ t ∈ T, ¬ cmpId (sat l g.first) (sat l t) < 0
theorem Groups.new {l : List GStamp} {cl : List Int} {T : List Int} {gs : List stamp_group} {x : Int} (h : Groups l cl T gs) (hx : ∀ t ∈ T, cmpIx l t x < 0) (hn : ∀ g, gs.getLast? = some g → cmpId (sat l g.first) (sat l x) ≠ 0) : Groups l cl (T ++ [x]) (gs ++ [⟨x, false⟩]) := by
  have hlt : ∀ g ∈ gs, cmpId (sat l g.first) (sat l x) < 0 := by
    intro g hg
    rcases List.eq_nil_or_concat gs with rfl | ⟨gs', g', rfl⟩
    · simp at hg
    · rw [List.concat_eq_append] at *
      have h1 : cmpId (sat l g'.first) (sat l x) < 0 := by
        have a1 := hn g' (by simp)
        have a2 := hx g'.first (h.first g' (by simp))
        rw [cmpIx_lt] at a2; rw [cmpId_lt]; have := mt (@cmpId_zero (sat l g'.first) (sat l x)).2 a1; omega
      rcases List.mem_append.1 hg with hg | hg
      · have := (List.pairwise_append.1 h.asc).2.2 g hg g' (by simp)
        rw [cmpId_lt] at *; omega
      · simp at hg; subst hg; exact h1
  have htlt : ∀ t ∈ T, cmpId (sat l t) (sat l x) < 0 := by
    intro t ht
    obtain ⟨g, hg, h1, _⟩ := h.each t ht
    have h2 := hlt g hg
    rw [cmpId_zero] at h1; rw [cmpId_lt] at *; omega
  constructor
  · intro g hg
    rcases List.mem_append.1 hg with hg | hg
    · simp [h.first g hg]
    · simp at hg; subst hg; simp
  · intro t ht
    rcases List.mem_append.1 ht with ht | ht
    · obtain ⟨g, hg, h1⟩ := h.each t ht; exact ⟨g, by simp [hg], h1⟩
    · simp at ht; subst ht; exact ⟨⟨t, false⟩, by simp, by simp [cmpId_zero], Int.le_refl _⟩
  · intro g hg0
    rcases List.mem_append.1 hg0 with hg | hg
    · rw [h.dsp g hg]
      constructor
      · rintro ⟨t, ht, h1⟩; exact ⟨t, by simp [ht], h1⟩
      · rintro ⟨t, ht, h1⟩
        have := hlt g hg
        rcases List.mem_append.1 ht with ht | ht
        · exact ⟨t, ht, h1⟩
        · simp at ht; rw [ht] at h1; omega
    · simp at hg; subst hg
      simp only [Bool.false_eq_true, false_iff]
      rintro ⟨t, ht, h1, h2⟩
      rcases List.mem_append.1 ht with ht | ht
      · have := htlt t ht; rw [cmpId_zero] at h1; rw [cmpId_lt] at this; omega
      · simp at ht; subst ht; rcases h2 with h2 | h2 <;> exact h2 rfl
  · rw [List.pairwise_append]; exact ⟨h.asc, by simp, fun g hg g' hg' => by simp at hg'; subst hg'; exact hlt g hg⟩
  · simp; exact h.len
  · intro g hg t ht
    simp at hg; subst hg
    show ¬ cmpId (sat l x) (sat l t) < 0
    rcases List.mem_append.1 ht with ht | ht
    · have := htlt t ht; rw [cmpId_lt] at *; omega
    · simp at ht; subst ht; rw [cmpId_lt]; omega
theorem Groups.old {l : List GStamp} {cl : List Int} {T : List Int} {gs : List stamp_group} {g : stamp_group} {x : Int} {b : Bool} (h : Groups l cl T (gs ++ [g])) (hx : ∀ t ∈ T, cmpIx l t x < 0) (he : cmpId (sat l g.first) (sat l x) = 0) (hb : b = true ↔ g.disputed = true ∨ diff l cl g.first x) : Groups l cl (T ++ [x]) (gs ++ [⟨g.first, b⟩]) := by
  have hgx : g.first ≤ x := by
    have := hx g.first (h.first g (by simp))
    rw [cmpIx_lt] at this; rw [cmpId_zero] at he; omega
  have hlt : ∀ k ∈ gs, cmpId (sat l k.first) (sat l x) < 0 := fun k hk => by
    have := (List.pairwise_append.1 h.asc).2.2 k hk g (by simp)
    rw [cmpId_zero] at he; rw [cmpId_lt] at *; omega
  constructor
  · intro k hk
    rcases List.mem_append.1 hk with hk | hk
    · simp [h.first k (by simp [hk])]
    · simp at hk; subst hk; simp [h.first g (by simp)]
  · intro t ht
    rcases List.mem_append.1 ht with ht | ht
    · obtain ⟨k, hk, h1⟩ := h.each t ht
      rcases List.mem_append.1 hk with hk | hk
      · exact ⟨k, by simp [hk], h1⟩
      · simp at hk; subst hk; exact ⟨⟨k.first, b⟩, by simp, h1⟩
    · simp at ht; subst ht; exact ⟨⟨g.first, b⟩, by simp, he, hgx⟩
  · intro k hk
    rcases List.mem_append.1 hk with hk | hk
    · rw [h.dsp k (by simp [hk])]
      constructor
      · rintro ⟨t, ht, h1⟩; exact ⟨t, by simp [ht], h1⟩
      · rintro ⟨t, ht, h1⟩
        rcases List.mem_append.1 ht with ht | ht
        · exact ⟨t, ht, h1⟩
        · simp at ht; subst ht; have := hlt k hk; omega
    · simp at hk; subst hk
      show b = true ↔ _
      rw [hb, h.dsp g (by simp)]
      constructor
      · rintro (⟨t, ht, h1⟩ | h1)
        · exact ⟨t, by simp [ht], h1⟩
        · exact ⟨x, by simp, he, h1⟩
      · rintro ⟨t, ht, h1, h2⟩
        rcases List.mem_append.1 ht with ht | ht
        · exact .inl ⟨t, ht, h1, h2⟩
        · simp at ht; subst ht; exact .inr h2
  · have := h.asc
    rw [List.pairwise_append] at this ⊢
    exact ⟨this.1, by simp, fun k hk g' hg' => by simp at hg'; subst hg'; exact this.2.2 k hk g (by simp)⟩
  · have := h.len; simp at this ⊢; omega
  · intro k hk t ht
    simp at hk; subst hk
    rcases List.mem_append.1 ht with ht | ht
    · exact h.last g (by simp) t ht
    · simp at ht; subst ht; show ¬ cmpId (sat l g.first) _ < 0; omega

theorem groups_loop {F : Nat} (hF : 10 ≤ F) {l : List GStamp} {cl : List Int} (hl : l.length = cl.length) (hb : l.length < 1000000) {S : List Int} (hS : S.Pairwise fun a b => cmpIx l a b < 0) (hv : ∀ i ∈ S, vat l i) (hSl : S.length ≤ l.length) :
    ∀ n (k : Int) (gs : List stamp_group), (∃ T U, S = T ++ U ∧ k = (T.length : Int) ∧ Groups l cl T gs) → (S.length - k.toNat) < n → ∃ r, stamp_groups_L2 F l cl S n k gs = some r ∧ Groups l cl S r := by
  refine loop2 (L := stamp_groups_L2 F l cl S) (B := stamp_groups_L2_B F l cl S) (fun _ => rfl) _ (fun (k : Int) (_ : List stamp_group) => S.length - k.toNat) _ ?_
  rintro rec k gs ⟨T, U, hTU, rfl, hG⟩ hrec
  unfold stamp_groups_L2_B
  cases U with
  | nil =>
    have d1 : decide ((T.length : Int) < (S.length : Int)) = false := by subst hTU; simp
    simp only [d1, Bool.false_eq_true, if_false]
    refine ⟨gs, rfl, ?_⟩
    subst hTU; simpa using hG
  | cons x U =>
    have d1 : decide ((T.length : Int) < (S.length : Int)) = true := by subst hTU; exact dlt T x U
    have hix : idx S (T.length : Int) = some x := by subst hTU; exact idx_at T x U
    have hTl : T.length < 1000000 := by have := congrArg List.length hTU; simp at this; omega
    have hx : ∀ t ∈ T, cmpIx l t x < 0 := fun t ht => by
      rw [hTU] at hS; exact (List.pairwise_append.1 hS).2.2 t ht x (by simp)
    have vx : vat l x := hv x (by rw [hTU]; simp)
    have hgo : ∀ gs', Groups l cl (T ++ [x]) gs' → ∃ r, rec (i64 ((T.length : Int) + 1)) gs' = some r ∧ Groups l cl S r := fun gs' hg' => by
      rw [nxt T x (by omega)]
      refine hrec _ _ ⟨T ++ [x], U, by simp [hTU], rfl, hg'⟩ ?_
      have := congrArg List.length hTU
      simp at this ⊢; omega
    simp only [d1, if_true, hix, Option.bind_some]
    have hgl : gs.length ≤ T.length := hG.len
    rcases List.eq_nil_or_concat gs with rfl | ⟨gs', g, rfl⟩
    · have : decide (i64 ((([] : List stamp_group).length : Int) - 1) < 0) = true := by rw [i64_of (by simp) (by simp)]; simp
      simp only [this, if_true, Option.bind_some]
      rw [app_of (by simp)]
      exact hgo _ (hG.new hx (by simp))
    · rw [List.concat_eq_append] at *
      simp only [List.length_append, List.length_singleton] at hgl
      have hw : i64 (((gs' ++ [g]).length : Int) - 1) = (gs'.length : Int) := by
        simp only [List.length_append, List.length_singleton]
        rw [i64_of (by omega) (by omega)]; omega
      have hgx : idx (gs' ++ [g]) (gs'.length : Int) = some g := idx_at gs' g []
      have hneg : decide ((gs'.length : Int) < 0) = false := by simp
      have vg : vat l g.first := hv _ (by rw [hTU]; simp [hG.first g (by simp)])
      have hap : app (gs' ++ [g]) [stamp_group.mk x false] = some (gs' ++ [g] ++ [stamp_group.mk x false]) := app_of (by simp; omega)
      simp only [hw, hneg, hgx, vat_idx vg, vat_idx vx, vat_cidx vg hl, vat_cidx vx hl, compareId_s hF, Bool.false_eq_true, if_false, Option.bind_some, bne_iff_ne, ne_eq, hap]
      by_cases he : cmpId (sat l g.first) (sat l x) = 0
      · simp only [he, not_true_eq_false, if_false, Bool.not_eq_eq_eq_not, Bool.not_true, decide_eq_false_iff_not]
        have hset : (gs' ++ [g]).set ((gs'.length : Int)).toNat (stamp_group.mk g.first true) = gs' ++ [stamp_group.mk g.first true] := by simp
        by_cases hd : sat l g.first = sat l x
        · simp only [hd, not_true_eq_false, if_false, Option.bind_some, bne_iff_ne, ne_eq]
          by_cases hc : cat cl g.first = cat cl x
          · simp only [hc, not_true_eq_false, if_false]
            have := hG.old (b := g.disputed) hx he ⟨.inl, fun h => h.elim id fun h => (h.elim (fun h => absurd hd h) fun h => absurd hc h)⟩
            exact hgo _ this
          · simp only [hc, not_false_eq_true, if_true, hset]
            exact hgo _ (hG.old (b := true) hx he ⟨fun _ => .inr (.inr hc), fun _ => rfl⟩)
        · simp only [hd, not_false_eq_true, if_true, Option.bind_some, hset]
          exact hgo _ (hG.old (b := true) hx he ⟨fun _ => .inr (.inl hd), fun _ => rfl⟩)
      · simp only [he, not_false_eq_true, if_true]
        exact hgo _ (hG.new hx (by simpa using he))
theorem groups_first {F : Nat} (hF : 10 ≤ F) {l : List GStamp} {cl : List Int} (hl : l.length = cl.length) (hb : l.length < 1000000) (hFl : l.length < F) :
    ∀ n (k : Int) (acc : List Int), (∃ j : Nat, k = j ∧ j ≤ l.length ∧ acc.length ≤ j ∧ acc.Pairwise (· < ·) ∧ ∀ i, i ∈ acc ↔ vat l i ∧ i < j) → (l.length - k.toNat) < n →
      ∃ r, stamp_groups_L1 F l cl n k acc = some r ∧ ∃ S, (∀ i, i ∈ S ↔ vat l i) ∧ S.length ≤ l.length ∧ Groups l cl S r := by
  refine loop2 (L := stamp_groups_L1 F l cl) (B := stamp_groups_L1_B F l cl) (fun _ => rfl) _ (fun (k : Int) (_ : List Int) => l.length - k.toNat) _ ?_
  rintro rec k acc ⟨j, rfl, hj, hlen, hs, hm⟩ hrec
  unfold stamp_groups_L1_B
  by_cases hlt : j < l.length
  · have d1 : decide ((j : Int) < (l.length : Int)) = true := by simp; exact hlt
    have hnext : i64 ((j : Int) + 1) = ((j + 1 : Nat) : Int) := by rw [i64_of (by omega) (by omega)]; rfl
    simp only [d1, if_true, idx_lt hlt, valid_s, Option.bind_some]
    by_cases hg : l[j].good = true
    · simp only [hg, if_true]
      rw [app_of (by simp; omega)]
      simp only [Option.bind_some, hnext]
      refine hrec _ _ ⟨j + 1, rfl, by omega, by simp; omega, ?_, fun i => ?_⟩ (by simp; omega)
      · rw [List.pairwise_append]; exact ⟨hs, by simp, fun a ha b hb => by simp at hb; subst hb; exact ((hm a).1 ha).2⟩
      · simp only [List.mem_append, List.mem_singleton, hm]
        constructor
        · rintro (⟨h1, h2⟩ | rfl)
          · exact ⟨h1, by omega⟩
          · exact ⟨⟨by omega, by simpa using (okAt_lt hlt).2 hg⟩, by omega⟩
        · rintro ⟨h1, h2⟩
          by_cases h : i = (j : Int)
          · exact .inr h
          · exact .inl ⟨h1, by omega⟩
    · simp only [bF hg, Bool.false_eq_true, if_false, hnext]
      refine hrec _ _ ⟨j + 1, rfl, by omega, by omega, hs, fun i => ?_⟩ (by simp; omega)
      rw [hm]
      constructor
      · rintro ⟨h1, h2⟩; exact ⟨h1, by omega⟩
      · rintro ⟨h1, h2⟩
        refine ⟨h1, ?_⟩
        by_cases h : i = (j : Int)
        · subst h; exact absurd ((okAt_lt hlt).1 (by simpa using h1.2)) hg
        · omega
  · have d1 : decide ((j : Int) < (l.length : Int)) = false := by simp; omega
    simp only [d1, Bool.false_eq_true, if_false]
    have hv : ∀ i, i ∈ acc ↔ vat l i := fun i => by
      rw [hm]
      constructor
      · exact fun h => h.1
      · intro h; refine ⟨h, ?_⟩; have := vat_lt h; have := h.1; omega
    obtain ⟨S, h1, h2, h3⟩ := sortF_by (c := fun a0 a1 => stamp_groups_1 F a0 a1 l) (xs := acc) (cmpIx l) (by omega) (fun x hx y hy => groups1_s hF ((hv x).1 hx) ((hv y).1 hy)) (fun x _ => by rw [cmpIx_lt]; omega)
      (fun x _ y _ z _ a b => by rw [cmpIx_lt] at *; omega) (fun x _ y _ z _ a b => by rw [cmpIx_lt] at *; omega) (hs.imp fun {a b} h => by simp only [cmpIx_lt]; omega)
    simp only [h1, Option.bind_some]
    have hSv : ∀ i, i ∈ S ↔ vat l i := fun i => by rw [h2.mem_iff, hv]
    have hSl : S.length ≤ l.length := by rw [h2.length_eq]; omega
    obtain ⟨r, h4, h5⟩ := groups_loop hF hl hb h3 (fun i hi => (hSv i).1 hi) hSl F 0 [] ⟨[], S, rfl, rfl, ⟨by simp, by simp, by simp, by simp, by simp, by simp⟩⟩ (by simp; omega)
    exact ⟨r, h4, S, hSv, hSl, h5⟩
/-- groups, by the whole list -/
structure AllGroups (l : List GStamp) (cl : List Int) (gs : List stamp_group) : Prop where
  first : ∀ g ∈ gs, vat l g.first
  each : ∀ t, vat l t → ∃ g ∈ gs, cmpId (sat l g.first) (sat l t) = 0 ∧ g.first ≤ t
  dsp : ∀ g ∈ gs, (g.disputed = true ↔ ∃ t, vat l t ∧ cmpId (sat l g.first) (sat l t) = 0 ∧ diff l cl g.first t)
  asc : gs.Pairwise fun g h => cmpId (sat l g.first) (sat l h.first) < 0
  len : gs.length ≤ l.length
theorem groups_s {F : Nat} (hF : 10 ≤ F) {l : List GStamp} {cl : List Int} (hl : l.length = cl.length) (hb : l.length < 1000000) (hFl : l.length < F) : ∃ gs, stamp_groups F l cl = some gs ∧ AllGroups l cl gs := by
  obtain ⟨r, h1, S, h2, h3, h4⟩ := groups_first hF hl hb hFl F 0 [] ⟨0, rfl, by omega, by simp, by simp, fun i => by simp [vat]; omega⟩ (by simpa using hFl)
  refine ⟨r, h1, fun g hg => (h2 _).1 (h4.first g hg), fun t ht => h4.each t ((h2 t).2 ht), fun g hg => ?_, h4.asc, Nat.le_trans h4.len h3⟩
  rw [h4.dsp g hg]
  simp only [h2]
end Go.Sh
