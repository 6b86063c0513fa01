/- Plain laws, part 9: the other laws of stamps. -/
import Derived.Test.YtdkhlkihhdjbbaaPh
set_option linter.unusedVariables false
set_option linter.unusedSimpArgs false
namespace Go.Sh
open Go.L

/- StampDisputes -/
theorem dsame_loop {F : Nat} (hF : 20 ≤ F) {a : List GIdentity × Int} (hb : a.1.length < 1000000) :
    ∀ n (k : Int), (∃ j : Nat, k = j ∧ j ≤ a.1.length) → (a.1.length - k.toNat) < n → ∃ r, law02_StampDisputes_L1 F a a n k = some r ∧ r = true := by
  refine loop1 (L := law02_StampDisputes_L1 F a a) (B := law02_StampDisputes_L1_B F a a) (fun _ => rfl) _ (fun (k : Int) => a.1.length - k.toNat) _ ?_
  rintro rec k ⟨j, rfl, hj⟩ hrec
  unfold law02_StampDisputes_L1_B
  by_cases hlt : j < a.1.length
  · have d1 : decide ((j : Int) < (a.1.length : Int)) = true := by simp; exact hlt
    simp only [d1, if_true, idx_lt hlt, Option.bind_some, decide_true, Bool.not_true, Bool.false_eq_true, if_false]
    rw [i64_of (by omega) (by omega)]
    exact hrec _ ⟨j + 1, by omega, by omega⟩ (by simp; omega)
  · have d1 : decide ((j : Int) < (a.1.length : Int)) = false := by simp; omega
    simp only [d1, Bool.false_eq_true, if_false, awake_s hF, Option.bind_some]
    exact ⟨_, rfl, rfl⟩
theorem dsame2 : law02_StampDisputes_L2 = law02_StampDisputes_L1 := by
  funext F a b n
  induction n with
  | zero => rfl
  | succ n ih =>
    funext k
    show law02_StampDisputes_L2_B F a b (law02_StampDisputes_L2 F a b n) k = law02_StampDisputes_L1_B F a b (law02_StampDisputes_L1 F a b n) k
    rw [ih]; rfl
theorem disp_len {l : List GStamp} {cl : List Int} {r : List GIdentity × Int} (h : DispS l cl r) : r.1.length ≤ l.length := by
  unfold DispS at h
  split at h
  · rw [h]; simp
  · obtain ⟨_, hs, hm⟩ := h
    -- the identities are among those of the list
    have hnd : r.1.Nodup := hs.imp fun {a b} hab he => by subst he; unfold idLt at hab; omega
    have hsub : r.1 ⊆ l.map fun s => GIdentity.mk s.Source s.Seq := fun x hx => by
      obtain ⟨i, _, _, _, _, s, h1, rfl⟩ := (hm x).1 hx
      exact List.mem_map.2 ⟨s, List.mem_of_getElem? h1, rfl⟩
    have := hnd.length_le_of_subset hsub
    simpa using this
theorem law_StampDisputes (t : List Int) : ∃ F, law02_StampDisputes F t = some true := by
  refine ⟨1000, ?_⟩
  obtain ⟨t0, h1, h2⟩ := new_s t
  obtain ⟨l, cl, t1, h3, h4, h5, h6⟩ := events_s (F := 1000) h2 14 6 (by omega) (by omega) (by omega)
  obtain ⟨b, t2, h7, h8⟩ := one_s h4 10 (by omega)
  have key : ∀ cl, ∃ a, stamp_Disputed 1000 l cl = some a ∧ ref02_Disputed 1000 l cl = some a ∧ a.1.length ≤ l.length := fun cl => by
    obtain ⟨r, e1, e2⟩ := disputed_s (F := 1000) (by omega) (l := l) (cl := cl) (by omega) (by omega)
    obtain ⟨s, e3, e4⟩ := refDisputed_s (F := 1000) (l := l) (cl := cl) (by omega) (by omega)
    have := e2.unique e4; subst this
    exact ⟨r, e1, e3, disp_len e2⟩
  have fin : ∀ a : List GIdentity × Int, a.1.length ≤ l.length → (if (((a.1.length : Int) != (a.1.length : Int)) || (a.2 != a.2)) = true then some false else law02_StampDisputes_L1 1000 a a 1000 0) = some true := fun a ha => by
    simp only [bne_self_eq_false, Bool.or_self, Bool.false_eq_true, if_false]
    obtain ⟨r, e1, rfl⟩ := dsame_loop (F := 1000) (by omega) (a := a) (by omega) 1000 0 ⟨0, rfl, by omega⟩ (by simp; omega)
    exact e1
  simp only [law02_StampDisputes, h1, Option.bind_some]
  rw [show (14 : Int) = ((14 : Nat) : Int) from rfl, h3]
  simp only [Option.bind_some, h7, dsame2]
  cases b with
  | true =>
    rw [app_of (by simp; omega)]
    obtain ⟨a, e1, e2, e3⟩ := key (cl ++ [0])
    simp only [if_true, Option.bind_some, e1, e2]
    exact fin a e3
  | false =>
    obtain ⟨a, e1, e2, e3⟩ := key cl
    simp only [Bool.false_eq_true, if_false, Option.bind_some, e1, e2]
    exact fin a e3

/- StampGrows -/
theorem canonS_small {l : List GStamp} {cl : List Int} (hl : l.length = cl.length) (h : l.length ≤ 300) : canonS l cl = (canonL l cl, 0) := by
  have := canonL_len l cl
  unfold canonS; rw [if_neg (by omega), if_neg (by omega)]
theorem disp_small {l : List GStamp} {cl : List Int} {r : List GIdentity × Int} (hl : l.length = cl.length) (h : DispS l cl r) : r.2 = 0 ∧ IsDisp l cl r.1 := by
  unfold DispS at h; rw [if_neg (by omega)] at h; exact h
/-- an event that counts in the first k counts, or its identity is disputed -/
theorem grows {l : List GStamp} {cl : List Int} {k i : Nat} (h : counts (l.take k) (cl.take k) i) : counts l cl i ∨ ∃ s, l[i]? = some s ∧ disputedId l cl ⟨s.Source, s.Seq⟩ := by
  have hlt := counts_lt h
  have hik : i < k := by simp at hlt; omega
  have hget : ∀ q, q < k → (l.take k)[q]? = l[q]? := fun q hq => by simp [List.getElem?_take, hq]
  have hcget : ∀ q, q < k → (cl.take k)[q]? = cl[q]? := fun q hq => by simp [List.getElem?_take, hq]
  have oki : okAt l i := by obtain ⟨x, h1, h2⟩ := h.1; rw [hget i hik] at h1; exact ⟨x, h1, h2⟩
  by_cases hd : ∃ q, okAt l q ∧ disp l cl i q
  · obtain ⟨q, h1, h2⟩ := hd
    obtain ⟨x, h3, h4⟩ := oki
    exact .inr ⟨x, h3, i, q, ⟨x, h3, h4⟩, h1, h2, x, h3, rfl⟩
  · left
    refine ⟨oki, fun q hq => ⟨fun h => hd ⟨q, hq, h⟩, fun hqi => ?_⟩⟩
    have hqk : q < k := by omega
    have : okAt (l.take k) q := by obtain ⟨x, h1, h2⟩ := hq; exact ⟨x, by rw [hget q hqk]; exact h1, h2⟩
    have := (h.2 q this).2 hqi
    rw [hget q hqk, hget i hik] at this; exact this
theorem growsC_loop {F : Nat} {l : List GStamp} {cl : List Int} {t : GTape} {a : List Int × Int} {d : List GIdentity × Int} {i : Nat} {x : Int} (hx : idx a.1 i = some x) {s : GStamp} (hs : idx l x = some s) (hd : d.1.length < 1000000) {rec1 : Int → Option Bool} (hrec1 : ∃ r, rec1 (i64 ((i : Int) + 1)) = some r ∧ r = true) :
    ∀ n (b : Bool) (k : Int), (∃ j : Nat, k = j ∧ j ≤ d.1.length ∧ (b = true ∨ ∃ q, j ≤ q ∧ d.1[q]? = some ⟨s.Source, s.Seq⟩)) → (d.1.length - k.toNat) < n → ∃ r, law02_StampGrows_L3 rec1 (l, cl, t) a d i n b k = some r ∧ r = true := by
  refine loop2 (L := law02_StampGrows_L3 rec1 (l, cl, t) a d i) (B := law02_StampGrows_L3_B rec1 (l, cl, t) a d i) (fun _ => rfl) _ (fun (_ : Bool) (k : Int) => d.1.length - k.toNat) _ ?_
  rintro rec b k ⟨j, rfl, hj, hI⟩ hrec
  unfold law02_StampGrows_L3_B
  by_cases hlt : j < d.1.length
  · have d1 : decide ((j : Int) < (d.1.length : Int)) = true := by simp; exact hlt
    have hgo : ∀ b', (b' = true ∨ ∃ q, j + 1 ≤ q ∧ d.1[q]? = some ⟨s.Source, s.Seq⟩) → ∃ r, rec b' (i64 ((j : Int) + 1)) = some r ∧ r = true := fun b' hb' => by
      rw [i64_of (by omega) (by omega)]
      exact hrec _ _ ⟨j + 1, by omega, by omega, hb'⟩ (by simp; omega)
    simp only [d1, if_true, hx, hs, idx_lt hlt, Option.bind_some]
    cases b with
    | true => simp only [if_true, Option.bind_some]; exact hgo true (.inl rfl)
    | false =>
      simp only [Bool.false_eq_true, if_false, Option.bind_some]
      refine hgo _ ?_
      obtain ⟨q, h1, h2⟩ := hI.resolve_left (by simp)
      by_cases hq : q = j
      · subst hq; left; simp [hlt] at h2; simp [h2]
      · exact .inr ⟨q, by omega, h2⟩
  · have d1 : decide ((j : Int) < (d.1.length : Int)) = false := by simp; omega
    have hb : b = true := hI.resolve_right fun ⟨q, h1, h2⟩ => by
      have := (List.getElem?_eq_some_iff.1 h2).1; omega
    subst hb
    simp only [d1, Bool.false_eq_true, if_false, Bool.not_true]
    exact hrec1
theorem growsB_loop {F : Nat} {l : List GStamp} {cl : List Int} {t : GTape} {a b : List Int × Int} {d : List GIdentity × Int} {i : Nat} {x : Int} (hx : idx a.1 i = some x) {s : GStamp} (hs : idx l x = some s) (hb : b.1.length < 1000000) (hd : d.1.length < 1000000) (hFd : d.1.length < F) {rec1 : Int → Option Bool} (hrec1 : ∃ r, rec1 (i64 ((i : Int) + 1)) = some r ∧ r = true) :
    ∀ n (f : Bool) (k : Int), (∃ j : Nat, k = j ∧ j ≤ b.1.length ∧ (f = true ∨ (∃ q : Nat, j ≤ q ∧ b.1[q]? = some x) ∨ GIdentity.mk s.Source s.Seq ∈ d.1)) → (b.1.length - k.toNat) < n → ∃ r, law02_StampGrows_L2 rec1 F (l, cl, t) a b d i n f k = some r ∧ r = true := by
  refine loop2 (L := law02_StampGrows_L2 rec1 F (l, cl, t) a b d i) (B := law02_StampGrows_L2_B rec1 F (l, cl, t) a b d i) (fun _ => rfl) _ (fun (_ : Bool) (k : Int) => b.1.length - k.toNat) _ ?_
  rintro rec f k ⟨j, rfl, hj, hI⟩ hrec
  unfold law02_StampGrows_L2_B
  by_cases hlt : j < b.1.length
  · have d1 : decide ((j : Int) < (b.1.length : Int)) = true := by simp; exact hlt
    have hgo : ∀ f', (f' = true ∨ (∃ q : Nat, j + 1 ≤ q ∧ b.1[q]? = some x) ∨ GIdentity.mk s.Source s.Seq ∈ d.1) → ∃ r, rec f' (i64 ((j : Int) + 1)) = some r ∧ r = true := fun f' hf' => by
      rw [i64_of (by omega) (by omega)]
      exact hrec _ _ ⟨j + 1, by omega, by omega, hf'⟩ (by simp; omega)
    simp only [d1, if_true, hx, idx_lt hlt, Option.bind_some]
    cases f with
    | true => simp only [if_true, Option.bind_some]; exact hgo true (.inl rfl)
    | false =>
      simp only [Bool.false_eq_true, if_false, Option.bind_some]
      refine hgo _ ?_
      rcases hI.resolve_left (by simp) with ⟨q, h1, h2⟩ | h
      · by_cases hq : q = j
        · subst hq; left; simp [hlt] at h2; simp [h2]
        · exact .inr (.inl ⟨q, by omega, h2⟩)
      · exact .inr (.inr h)
  · have d1 : decide ((j : Int) < (b.1.length : Int)) = false := by simp; omega
    simp only [d1, Bool.false_eq_true, if_false]
    refine growsC_loop (F := F) hx hs hd hrec1 F f 0 ⟨0, rfl, by omega, ?_⟩ (by simpa using hFd)
    rcases hI with h | ⟨q, h1, h2⟩ | h
    · exact .inl h
    · have := (List.getElem?_eq_some_iff.1 h2).1; omega
    · obtain ⟨q, h1⟩ := List.mem_iff_getElem?.1 h; exact .inr ⟨q, by omega, h1⟩
theorem growsA_loop {F : Nat} (hF : 20 ≤ F) {l : List GStamp} {cl : List Int} {t : GTape} {a b : List Int × Int} {d : List GIdentity × Int} (ha : a.1.length < 1000000) (hb : b.1.length < 1000000) (hd : d.1.length < 1000000) (hFd : d.1.length < F) (hFb : b.1.length < F)
    (h : ∀ x ∈ a.1, ∃ s, idx l x = some s ∧ x < l.length ∧ (x ∈ b.1 ∨ GIdentity.mk s.Source s.Seq ∈ d.1)) :
    ∀ n (k : Int), (∃ j : Nat, k = j ∧ j ≤ a.1.length) → (a.1.length - k.toNat) < n → ∃ r, law02_StampGrows_L1 F (l, cl, t) a b d n k = some r ∧ r = true := by
  refine loop1 (L := law02_StampGrows_L1 F (l, cl, t) a b d) (B := law02_StampGrows_L1_B F (l, cl, t) a b d) (fun _ => rfl) _ (fun (k : Int) => a.1.length - k.toNat) _ ?_
  rintro rec k ⟨j, rfl, hj⟩ hrec
  unfold law02_StampGrows_L1_B
  by_cases hlt : j < a.1.length
  · have d1 : decide ((j : Int) < (a.1.length : Int)) = true := by simp; exact hlt
    obtain ⟨s, h1, h2, h3⟩ := h a.1[j] (by simp)
    have h0 : ¬ a.1[j] < 0 := fun h => by have := (idx_some.1 h1).1; omega
    have h4 : ¬ a.1[j] ≥ (l.length : Int) := by omega
    simp only [d1, if_true, idx_lt hlt, Option.bind_some, h0, h4, decide_false, Bool.false_eq_true, if_false]
    refine growsB_loop (idx_lt hlt) h1 hb hd hFd ?_ F false 0 ⟨0, rfl, by omega, ?_⟩ (by simpa using hFb)
    · rw [i64_of (by omega) (by omega)]
      exact hrec _ ⟨j + 1, by omega, by omega⟩ (by simp; omega)
    · rcases h3 with h3 | h3
      · obtain ⟨q, h5⟩ := List.mem_iff_getElem?.1 h3; exact .inr (.inl ⟨q, by omega, h5⟩)
      · exact .inr (.inr h3)
  · have d1 : decide ((j : Int) < (a.1.length : Int)) = false := by simp; omega
    simp only [d1, Bool.false_eq_true, if_false, awake_s hF, Option.bind_some]
    exact ⟨_, rfl, rfl⟩
theorem law_StampGrows (t : List Int) : ∃ F, law02_StampGrows F t = some true := by
  refine ⟨1000, ?_⟩
  obtain ⟨t0, h1, h2⟩ := new_s t
  obtain ⟨l, cl, t1, h3, h4, h5, h6⟩ := events_s (F := 1000) h2 12 8 (by omega) (by omega) (by omega)
  obtain ⟨k, t2, h7, h8, h9, h10⟩ := range_s h4 0 l.length (by omega) (by omega) (by omega)
  obtain ⟨j, rfl⟩ : ∃ j : Nat, k = j := ⟨k.toNat, by omega⟩
  obtain ⟨d, e1, e2⟩ := disputed_s (F := 1000) (by omega) (l := l) (cl := cl) (by omega) (by omega)
  have dl := disp_len e2
  obtain ⟨e3, e4⟩ := disp_small h5 e2
  have hk : knownS l cl j = canonS (l.take j) (cl.take j) := by
    unfold knownS
    rw [if_neg (by omega), if_neg (by omega)]; simp
  have hk2 : canonS (l.take j) (cl.take j) = (canonL (l.take j) (cl.take j), 0) := canonS_small (by simp; omega) (by simp; omega)
  have b1 := canonL_len (l.take j) (cl.take j)
  have b2 := canonL_len l cl
  simp only [List.length_take] at b1
  simp only [law02_StampGrows, h1, Option.bind_some]
  rw [show (12 : Int) = ((12 : Nat) : Int) from rfl, h3]
  simp only [Option.bind_some, h7]
  rw [known_e (by omega) _ (by omega) (by omega), canonical_e (by omega) (by omega) (by omega), e1, hk, hk2, canonS_small h5 (by omega)]
  simp only [Option.bind_some, e3, bne_self_eq_false, Bool.or_self, Bool.false_eq_true, if_false]
  obtain ⟨r, f1, rfl⟩ := growsA_loop (F := 1000) (by omega) (l := l) (cl := cl) (t := t1) (a := (canonL (l.take j) (cl.take j), 0)) (b := (canonL l cl, 0)) (d := d) (by simp only; omega) (by simp only; omega) (by omega) (by omega) (by simp only; omega) (fun x hx => by
    have hc := ((canonL_is (l.take j) (cl.take j)).mem x).1 hx
    have hlt := counts_lt hc.2
    simp only [List.length_take] at hlt
    have hxl : x.toNat < l.length := by omega
    refine ⟨l[x.toNat], ?_, by omega, ?_⟩
    · rw [idx_some]; exact ⟨hc.1, by simp [hxl]⟩
    · rcases grows hc.2 with h | ⟨s, h, h'⟩
      · exact .inl (((canonL_is l cl).mem x).2 ⟨hc.1, h⟩)
      · have : s = l[x.toNat] := by simp [hxl] at h; exact h.symm
        subst this
        exact .inr ((e4.mem _).2 h')) 1000 0 ⟨0, rfl, by omega⟩ (by simp; omega)
  exact f1
end Go.Sh
