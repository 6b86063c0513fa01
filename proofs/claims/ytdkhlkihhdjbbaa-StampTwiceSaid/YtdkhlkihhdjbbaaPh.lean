/- Plain laws, part 8: stamp.Disputed and its reference. -/
import Derived.Test.YtdkhlkihhdjbbaaPg
set_option linter.unusedVariables false
set_option linter.unusedSimpArgs false
namespace Go.Sh
open Go.L

def idLt (a b : GIdentity) : Prop := a.Source < b.Source ∨ a.Source = b.Source ∧ a.Seq < b.Seq
instance (a b : GIdentity) : Decidable (idLt a b) := by unfold idLt; infer_instance
/-- the identity x is disputed -/
def disputedId (l : List GStamp) (cl : List Int) (x : GIdentity) : Prop := ∃ i k : Nat, okAt l i ∧ okAt l k ∧ disp l cl i k ∧ ∃ s, l[i]? = some s ∧ x = ⟨s.Source, s.Seq⟩
structure IsDisp (l : List GStamp) (cl : List Int) (d : List GIdentity) : Prop where
  sorted : d.Pairwise idLt
  mem : ∀ x, x ∈ d ↔ disputedId l cl x
theorem IsDisp.unique {l : List GStamp} {cl : List Int} {a b : List GIdentity} (h : IsDisp l cl a) (h' : IsDisp l cl b) : a = b :=
  sorted_ext (R := idLt) (fun a h => by unfold idLt at h; omega) (fun a b c h1 h2 => by unfold idLt at *; omega) h.sorted h'.sorted fun x => by rw [h.mem, h'.mem]
def DispS (l : List GStamp) (cl : List Int) (r : List GIdentity × Int) : Prop := if l.length ≠ cl.length then r = ([], 1) else r.2 = 0 ∧ IsDisp l cl r.1
theorem DispS.unique {l : List GStamp} {cl : List Int} {r s : List GIdentity × Int} (h : DispS l cl r) (h' : DispS l cl s) : r = s := by
  unfold DispS at *
  split at h
  · rename_i hl; rw [if_pos hl] at h'; rw [h, h']
  · rename_i hl; rw [if_neg hl] at h'
    exact Prod.ext (h.2.unique h'.2) (h.1.trans h'.1.symm)
theorem disp_vat {l : List GStamp} {cl : List Int} (hl : l.length = cl.length) {a b : Int} (ha : vat l a) (hb : vat l b) : disp l cl a.toNat b.toNat ↔ cmpId (sat l a) (sat l b) = 0 ∧ ((sat l a).Time ≠ (sat l b).Time ∨ cat cl a ≠ cat cl b) := by
  unfold disp sid
  rw [cmpId_zero, vat_get ha, vat_get hb, vat_cget ha hl, vat_cget hb hl]
  simp only [Option.some.injEq]
  constructor
  · rintro ⟨x, y, c, d, rfl, rfl, rfl, rfl, h⟩; exact h
  · intro h; exact ⟨_, _, _, _, rfl, rfl, rfl, rfl, h⟩
theorem diff_iff {x y : GStamp} (h : cmpId x y = 0) : x = y ↔ x.Time = y.Time := by
  rw [cmpId_zero] at h
  cases x; cases y; simp at h ⊢; simp [h]
/-- an identity is disputed exactly if its group is -/
theorem disputed_iff {l : List GStamp} {cl : List Int} {gs : List stamp_group} (hl : l.length = cl.length) (hG : AllGroups l cl gs) (x : GIdentity) : disputedId l cl x ↔ ∃ g ∈ gs, g.disputed = true ∧ x = ⟨(sat l g.first).Source, (sat l g.first).Seq⟩ := by
  constructor
  · rintro ⟨i, k, hi, hk, hd, s, hs, rfl⟩
    have vi : vat l (i : Int) := ⟨by omega, by simpa using hi⟩
    have vk : vat l (k : Int) := ⟨by omega, by simpa using hk⟩
    have hsi : sat l i = s := by have := vat_get vi; simp only [Int.toNat_natCast] at this; rw [hs] at this; exact (Option.some.inj this).symm
    have hd' := (disp_vat hl vi vk).1 (by simpa using hd)
    obtain ⟨g, hg, h1, h2⟩ := hG.each i vi
    refine ⟨g, hg, ?_, ?_⟩
    · rw [hG.dsp g hg]
      have h3 : cmpId (sat l g.first) (sat l k) = 0 := by have := hd'.1; rw [cmpId_zero] at *; omega
      by_cases h4 : diff l cl g.first i
      · exact ⟨i, vi, h1, h4⟩
      · refine ⟨k, vk, h3, ?_⟩
        unfold diff at *
        have h5 : sat l g.first = sat l i := Decidable.byContradiction fun h => h4 (.inl h)
        have h6 : cat cl g.first = cat cl i := Decidable.byContradiction fun h => h4 (.inr h)
        rw [h5, h6]
        rcases hd'.2 with h | h
        · exact .inl fun he => h (by rw [he])
        · exact .inr h
    · rw [cmpId_zero] at h1; rw [hsi] at h1; simp [h1]
  · rintro ⟨g, hg, hd, rfl⟩
    have vg := hG.first g hg
    obtain ⟨t, vt, h1, h2⟩ := (hG.dsp g hg).1 hd
    refine ⟨g.first.toNat, t.toNat, vg.2, vt.2, (disp_vat hl vg vt).2 ⟨h1, ?_⟩, _, vat_get vg, rfl⟩
    rcases h2 with h2 | h2
    · exact .inl fun he => h2 ((diff_iff h1).2 he)
    · exact .inr h2
def dids (l : List GStamp) (gs : List stamp_group) : List GIdentity := (gs.filter fun g => g.disputed).map fun g => ⟨(sat l g.first).Source, (sat l g.first).Seq⟩
theorem disputed_loop {F : Nat} {l : List GStamp} {cl : List Int} (hl : l.length = cl.length) (hb : l.length < 1000000) {gs : List stamp_group} (hG : AllGroups l cl gs) :
    ∀ n (k : Int) (acc : List GIdentity), (∃ p s, gs = p ++ s ∧ k = (p.length : Int) ∧ acc = dids l p) → (gs.length - k.toNat) < n → ∃ r, stamp_Disputed_L1 l gs n k acc = some r ∧ DispS l cl r := by
  refine loop2 (L := stamp_Disputed_L1 l gs) (B := stamp_Disputed_L1_B l gs) (fun _ => rfl) _ (fun (k : Int) (_ : List GIdentity) => gs.length - k.toNat) _ ?_
  rintro rec k acc ⟨p, s, hps, rfl, rfl⟩ hrec
  unfold stamp_Disputed_L1_B
  have hgl := hG.len
  have hpl : p.length ≤ gs.length := by rw [hps]; simp
  have hfl : (dids l p).length ≤ p.length := by unfold dids; rw [List.length_map]; exact List.length_filter_le _ _
  cases s with
  | cons g s =>
    have d1 : decide ((p.length : Int) < (gs.length : Int)) = true := by rw [hps]; exact dlt p g s
    have hix : idx gs (p.length : Int) = some g := by rw [hps]; exact idx_at p g s
    have hm : gs.length - ((p ++ [g]).length : Int).toNat < gs.length - (p.length : Int).toNat := by
      have := congrArg List.length hps; simp at this ⊢; omega
    have vg := hG.first g (by rw [hps]; simp)
    simp only [d1, if_true, hix, Option.bind_some, nxt p g (by omega)]
    cases hd : g.disputed with
    | true =>
      simp only [if_true, vat_idx vg, Option.bind_some]
      rw [app_of (by simp; omega)]
      exact hrec _ _ ⟨p ++ [g], s, by simp [hps], rfl, by simp [dids, hd]⟩ hm
    | false =>
      simp only [Bool.false_eq_true, if_false]
      exact hrec _ _ ⟨p ++ [g], s, by simp [hps], rfl, by simp [dids, hd]⟩ hm
  | nil =>
    have hpg : gs = p := by simpa using hps
    subst hpg
    have d1 : decide ((gs.length : Int) < (gs.length : Int)) = false := by simp
    simp only [d1, Bool.false_eq_true, if_false]
    refine ⟨_, rfl, ?_⟩
    unfold DispS
    rw [if_neg (by omega)]
    refine ⟨rfl, ?_, fun x => ?_⟩
    · show (dids l gs).Pairwise idLt
      unfold dids
      rw [List.pairwise_map]
      refine (hG.asc.filter _).imp fun {a b} h => ?_
      rw [cmpId_lt] at h; exact h
    · show x ∈ dids l gs ↔ _
      rw [disputed_iff hl hG]
      simp only [dids, List.mem_map, List.mem_filter]
      constructor
      · rintro ⟨g, ⟨h1, h2⟩, h3⟩; exact ⟨g, h1, h2, h3.symm⟩
      · rintro ⟨g, h1, h2, h3⟩; exact ⟨g, ⟨h1, h2⟩, h3.symm⟩
theorem disputed_s {F : Nat} (hF : 10 ≤ F) {l : List GStamp} {cl : List Int} (hb : l.length < 1000000) (hFl : l.length < F) : ∃ r, stamp_Disputed F l cl = some r ∧ DispS l cl r := by
  unfold stamp_Disputed
  by_cases hl : l.length = cl.length
  · have : ((l.length : Int) != (cl.length : Int)) = false := by simp; omega
    simp only [this, Bool.false_eq_true, if_false]
    obtain ⟨gs, h1, h2⟩ := groups_s hF hl hb hFl
    simp only [h1, Option.bind_some]
    have := h2.len
    exact disputed_loop (F := F) hl hb h2 F 0 [] ⟨[], gs, rfl, rfl, rfl⟩ (by simp; omega)
  · have : ((l.length : Int) != (cl.length : Int)) = true := by simp; omega
    simp only [this, if_true]
    exact ⟨_, rfl, by unfold DispS; rw [if_pos hl]⟩

/- the reference -/
theorem refBefore_s (a b : GIdentity) : ref02_before a b = some (decide (idLt a b)) := by
  unfold ref02_before
  congr 1
  rw [Bool.eq_iff_iff, decide_eq_true_eq]; simp [idLt]
theorem refDplace {l2 : List GIdentity} {n3 : Int} {x5 x6 : GStamp} {b7 : Bool} {x : GIdentity} (hx : x = ⟨x5.Source, x6.Seq⟩) (hlen : l2.length < 1000000) (hs : l2.Pairwise idLt) {rec1 : List GIdentity → Int → Option (List GIdentity × Int)} {Post : List GIdentity × Int → Prop}
    (hno : (b7 = false ∨ x ∈ l2) → ∃ r, rec1 l2 (i64 (n3 + 1)) = some r ∧ Post r) (hyes : b7 = true → ∀ p s, l2 = p ++ s → (∀ a ∈ p, idLt a x) → (∀ a ∈ s, idLt x a) → ∃ r, rec1 (p ++ x :: s) (i64 (n3 + 1)) = some r ∧ Post r) :
    ∀ n (k : Int), (∃ p s, l2 = p ++ s ∧ k = (p.length : Int) ∧ ∀ a ∈ p, idLt a x) → (l2.length - k.toNat) < n → ∃ r, ref02_Disputed_L3 rec1 l2 n3 x5 x6 b7 n k = some r ∧ Post r := by
  refine loop1 (L := ref02_Disputed_L3 rec1 l2 n3 x5 x6 b7) (B := ref02_Disputed_L3_B rec1 l2 n3 x5 x6 b7) (fun _ => rfl) _ (fun k : Int => l2.length - k.toNat) _ ?_
  rintro rec k ⟨p, s, rfl, rfl, hlt⟩ hrec
  unfold ref02_Disputed_L3_B
  simp only [← hx]
  simp only [List.length_append] at hlen
  have fin : (∀ a ∈ s, idLt x a) → b7 = true → ∃ r, ((slc (p ++ s) 0 (p.length : Int)).bind fun v37 => (app [] v37).bind fun v38 => (app v38 [x]).bind fun v39 => (slc (p ++ s) (p.length : Int) ((p ++ s).length : Int)).bind fun v40 => (app v39 v40).bind fun v41 => rec1 v41 (i64 (n3 + 1))) = some r ∧ Post r := fun hgt hb => by
    rw [slc_take (by simp), slc_drop (by simp)]
    simp only [Option.bind_some, List.take_left, List.drop_left]
    rw [app_of (by simp; omega)]
    simp only [Option.bind_some, List.nil_append]
    rw [app_of (by simp; omega)]
    simp only [Option.bind_some]
    rw [app_of (by simp; omega)]
    simp only [Option.bind_some, List.append_assoc, List.singleton_append]
    exact hyes hb p s rfl hlt hgt
  cases s with
  | nil =>
    have d1 : decide ((p.length : Int) < ((p ++ []).length : Int)) = false := dge p
    simp only [d1, Bool.false_eq_true, if_false, Option.bind_some]
    cases b7 with
    | false => simp only [Bool.not_false, if_true, Option.bind_some]; exact hno (.inl rfl)
    | true => simp only [Bool.not_true, Bool.false_eq_true, if_false, Option.bind_some]; exact fin (by simp) rfl
  | cons y s =>
    have d1 : decide ((p.length : Int) < ((p ++ y :: s).length : Int)) = true := dlt p y s
    simp only [d1, if_true, idx_at, refBefore_s, Option.bind_some]
    by_cases hy : idLt y x
    · simp only [hy, decide_true, if_true]
      rw [nxt p y (by omega)]
      refine hrec _ ⟨p ++ [y], s, by simp, rfl, fun a ha => ?_⟩ (by simp; omega)
      rcases List.mem_append.1 ha with ha | ha
      · exact hlt a ha
      · simp at ha; subst ha; exact hy
    · simp only [hy, decide_false, Bool.false_eq_true, if_false]
      cases b7 with
      | false => simp only [Bool.not_false, if_true, Option.bind_some]; exact hno (.inl rfl)
      | true =>
        simp only [Bool.not_true, Bool.false_eq_true, if_false, Option.bind_some]
        by_cases he : y = x
        · subst he; simp only [decide_true, if_true]; exact hno (.inr (by simp))
        · simp only [he, decide_false, Bool.false_eq_true, if_false]
          refine fin (fun a ha => ?_) rfl
          have hxy : idLt x y := by
            unfold idLt at *
            have : ¬ (y.Source = x.Source ∧ y.Seq = x.Seq) := fun h => he (by cases x; cases y; simp at h; simp [h])
            omega
          rcases List.mem_cons.1 ha with rfl | ha
          · exact hxy
          · have := (List.pairwise_cons.1 (List.pairwise_append.1 hs).2.1).1 a ha
            unfold idLt at *; omega
theorem refDfound {F : Nat} {l : List GStamp} {cl : List Int} (hl : l.length = cl.length) (hb : l.length < 1000000) {l2 : List GIdentity} {i : Nat} (hi : i < l.length) {x5 x6 : GStamp} {rec1 : List GIdentity → Int → Option (List GIdentity × Int)} {Post : List GIdentity × Int → Prop}
    (h : ∀ b, (b = true ↔ okAt l i ∧ ∃ k, okAt l k ∧ disp l cl i k) → ∃ r, ref02_Disputed_L3 rec1 l2 i x5 x6 b F 0 = some r ∧ Post r) :
    ∀ n (b : Bool) (k : Int), (∃ j : Nat, k = j ∧ j ≤ l.length ∧ (b = true ↔ okAt l i ∧ ∃ q, q < j ∧ okAt l q ∧ disp l cl i q)) → (l.length - k.toNat) < n → ∃ r, ref02_Disputed_L2 rec1 F l cl l2 i x5 x6 n b k = some r ∧ Post r := by
  refine loop2 (L := ref02_Disputed_L2 rec1 F l cl l2 i x5 x6) (B := ref02_Disputed_L2_B rec1 F l cl l2 i x5 x6) (fun _ => rfl) _ (fun (_ : Bool) (k : Int) => l.length - k.toNat) _ ?_
  rintro rec b k ⟨j, rfl, hj, hB⟩ hrec
  unfold ref02_Disputed_L2_B
  have hi' : i < cl.length := by omega
  by_cases hlt : j < l.length
  · have hj' : j < cl.length := by omega
    have d1 : decide ((j : Int) < (l.length : Int)) = true := by simp; exact hlt
    have hgo : ∀ b', (b' = true ↔ okAt l i ∧ ∃ q, q < j + 1 ∧ okAt l q ∧ disp l cl i q) → ∃ r, rec b' (i64 ((j : Int) + 1)) = some r ∧ Post r := fun b' hb' => by
      rw [i64_of (by omega) (by omega)]
      exact hrec _ _ ⟨j + 1, by omega, by omega, hb'⟩ (by simp; omega)
    simp only [d1, if_true]
    cases b with
    | true =>
      simp only [if_true, Option.bind_some]
      obtain ⟨h1, q, h2, h3⟩ := hB.1 rfl
      exact hgo true ⟨fun _ => ⟨h1, q, by omega, h3⟩, fun _ => rfl⟩
    | false =>
      simp only [Bool.false_eq_true, if_false, idx_lt hi, idx_lt hlt, idx_lt hi', idx_lt hj', refValid_s, Option.bind_some, ref02_disputes]
      have hB' : ¬ (okAt l i ∧ ∃ q, q < j ∧ okAt l q ∧ disp l cl i q) := fun h => by simpa using hB.2 h
      by_cases hgi : l[i].good = true
      · have oki : okAt l i := (okAt_lt hi).2 hgi
        simp only [hgi, if_true]
        by_cases hgj : l[j].good = true
        · have okj : okAt l j := (okAt_lt hlt).2 hgj
          simp only [hgj, if_true, Option.bind_some]
          refine hgo _ ?_
          have hd : ((l[i].Source == l[j].Source) && ((l[i].Seq == l[j].Seq) && ((l[i].Time != l[j].Time) || (cl[i] != cl[j])))) = true ↔ disp l cl i j := by
            rw [disp_lt hi hlt hl]; unfold sid; simp [and_assoc]
          rw [hd]
          constructor
          · intro h; exact ⟨oki, j, by omega, okj, h⟩
          · rintro ⟨_, q, h1, h2, h3⟩
            rcases Nat.lt_succ_iff_lt_or_eq.1 h1 with h | h
            · exact absurd ⟨oki, q, h, h2, h3⟩ hB'
            · subst h; exact h3
        · simp only [bF hgj, Bool.false_eq_true, if_false, Option.bind_some]
          refine hgo false ⟨(fun h => by cases h), ?_⟩
          rintro ⟨h0, q, h1, h2, h3⟩
          rcases Nat.lt_succ_iff_lt_or_eq.1 h1 with h | h
          · exact absurd ⟨h0, q, h, h2, h3⟩ hB'
          · subst h; exact absurd ((okAt_lt hlt).1 h2) hgj
      · simp only [bF hgi, Bool.false_eq_true, if_false, Option.bind_some]
        refine hgo false ⟨(fun h => by cases h), ?_⟩
        rintro ⟨h0, _⟩
        exact absurd ((okAt_lt hi).1 h0) hgi
  · have d1 : decide ((j : Int) < (l.length : Int)) = false := by simp; omega
    simp only [d1, Bool.false_eq_true, if_false]
    refine h b (hB.trans ⟨fun ⟨h0, q, _, h2⟩ => ⟨h0, q, h2⟩, fun ⟨h0, q, h1, h2⟩ => ⟨h0, q, ?_, h1, h2⟩⟩)
    by_cases hq : q < l.length
    · omega
    · exact absurd h1 (okAt_ge (by omega))
theorem refD_loop {F : Nat} {l : List GStamp} {cl : List Int} (hl : l.length = cl.length) (hb : l.length < 1000000) (hF : l.length < F) :
    ∀ n (out : List GIdentity) (k : Int), (∃ j : Nat, k = j ∧ j ≤ l.length ∧ out.length ≤ j ∧ out.Pairwise idLt ∧ ∀ x, x ∈ out ↔ ∃ i q, i < j ∧ okAt l i ∧ okAt l q ∧ disp l cl i q ∧ ∃ s, l[i]? = some s ∧ x = ⟨s.Source, s.Seq⟩) → (l.length - k.toNat) < n → ∃ r, ref02_Disputed_L1 F l cl n out k = some r ∧ DispS l cl r := by
  refine loop2 (L := ref02_Disputed_L1 F l cl) (B := ref02_Disputed_L1_B F l cl) (fun _ => rfl) _ (fun (_ : List GIdentity) (k : Int) => l.length - k.toNat) _ ?_
  rintro rec out k ⟨j, rfl, hj, hlen, hs, hm⟩ hrec
  unfold ref02_Disputed_L1_B
  by_cases hlt : j < l.length
  · have d1 : decide ((j : Int) < (l.length : Int)) = true := by simp; exact hlt
    have hnext : i64 ((j : Int) + 1) = ((j + 1 : Nat) : Int) := by rw [i64_of (by omega) (by omega)]; rfl
    simp only [d1, if_true, idx_lt hlt, Option.bind_some]
    refine refDfound hl hb hlt ?_ F false 0 ⟨0, rfl, by omega, by simp⟩ (by simpa using hF)
    intro b hB
    have old : ∀ x, (∃ i q, i < j ∧ okAt l i ∧ okAt l q ∧ disp l cl i q ∧ ∃ s, l[i]? = some s ∧ x = GIdentity.mk s.Source s.Seq) → ∃ i q, i < j + 1 ∧ okAt l i ∧ okAt l q ∧ disp l cl i q ∧ ∃ s, l[i]? = some s ∧ x = GIdentity.mk s.Source s.Seq := fun x ⟨i, q, h1, h2⟩ => ⟨i, q, by omega, h2⟩
    refine refDplace (x := ⟨l[j].Source, l[j].Seq⟩) rfl (by omega) hs ?_ ?_ F 0 ⟨[], out, rfl, rfl, by simp⟩ (by simp; omega)
    · intro hno
      rw [hnext]
      refine hrec _ _ ⟨j + 1, rfl, by omega, by omega, hs, fun x => ⟨fun h => old x ((hm x).1 h), ?_⟩⟩ (by simp; omega)
      rintro ⟨i, q, h1, h2, h3, h4, s, h5, rfl⟩
      rcases Nat.lt_succ_iff_lt_or_eq.1 h1 with h | h
      · exact (hm _).2 ⟨i, q, h, h2, h3, h4, s, h5, rfl⟩
      · subst h
        have hsj : s = l[i] := by simp [hlt] at h5; exact h5.symm
        rcases hno with hno | hno
        · have := hB.2 ⟨h2, q, h3, h4⟩; rw [hno] at this; cases this
        · rw [hsj]; exact hno
    · rintro hbt p s rfl hp hgt
      rw [hnext]
      obtain ⟨okj, q, okq, hd⟩ := hB.1 hbt
      refine hrec _ _ ⟨j + 1, rfl, by omega, by simp at hlen ⊢; omega, ?_, fun x => ?_⟩ (by simp; omega)
      · rw [List.pairwise_append] at hs ⊢
        refine ⟨hs.1, List.pairwise_cons.2 ⟨hgt, hs.2.1⟩, fun a ha c hc => ?_⟩
        rcases List.mem_cons.1 hc with rfl | hc
        · exact hp a ha
        · exact hs.2.2 a ha c hc
      · have := hm x
        simp only [List.mem_append, List.mem_cons] at this ⊢
        constructor
        · rintro (h | h | h)
          · exact old x (this.1 (.inl h))
          · exact ⟨j, q, by omega, okj, okq, hd, l[j], by simp [hlt], h⟩
          · exact old x (this.1 (.inr h))
        · rintro ⟨i, q', h1, h2, h3, h4, st, h5, h6⟩
          rcases Nat.lt_succ_iff_lt_or_eq.1 h1 with h | h
          · rcases this.2 ⟨i, q', h, h2, h3, h4, st, h5, h6⟩ with h | h
            · exact .inl h
            · exact .inr (.inr h)
          · subst h
            have hsj : st = l[i] := by simp [hlt] at h5; exact h5.symm
            subst hsj; exact .inr (.inl h6)
  · have d1 : decide ((j : Int) < (l.length : Int)) = false := by simp; omega
    simp only [d1, Bool.false_eq_true, if_false]
    refine ⟨_, rfl, ?_⟩
    unfold DispS
    rw [if_neg (by omega)]
    refine ⟨rfl, hs, fun x => ?_⟩
    rw [hm]
    constructor
    · rintro ⟨i, q, _, h1, h2, h3, h4⟩; exact ⟨i, q, h1, h2, h3, h4⟩
    · rintro ⟨i, q, h1, h2, h3, h4⟩
      refine ⟨i, q, ?_, h1, h2, h3, h4⟩
      by_cases hi : i < l.length
      · omega
      · exact absurd h1 (okAt_ge (by omega))
theorem refDisputed_s {F : Nat} {l : List GStamp} {cl : List Int} (hb : l.length < 1000000) (hF : l.length < F) : ∃ r, ref02_Disputed F l cl = some r ∧ DispS l cl r := by
  unfold ref02_Disputed
  by_cases hl : l.length = cl.length
  · have : ((cl.length : Int) != (l.length : Int)) = false := by simp; omega
    simp only [this, Bool.false_eq_true, if_false]
    exact refD_loop hl hb hF F _ _ ⟨0, rfl, by omega, by simp, by simp, fun i => by simp⟩ (by simpa using hF)
  · have : ((cl.length : Int) != (l.length : Int)) = true := by simp; omega
    simp only [this, if_true]
    exact ⟨_, rfl, by unfold DispS; rw [if_pos hl]⟩
end Go.Sh
