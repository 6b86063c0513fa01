/- Plain laws, part 8: copies.Canonical and the document's Canonical over the events GRegisterEvent: both give the canonical events. -/
import Derived.Test.YtapnjifcfljmmaaQg
set_option linter.unusedVariables false
set_option linter.unusedSimpArgs false
namespace Go.Sh
open Go.L

theorem mget_mput {α β : Type} [DecidableEq α] (k k' : α) (v : β) : ∀ m : List (α × β), mget (mput m k v) k' = if k' = k then some v else mget m k'
  | [] => by simp only [mput, mget]; by_cases h : k = k'
             · simp [h]
             · simp [h, Ne.symm h]
  | (a, b) :: r => by
    simp only [mput]
    by_cases h : a = k
    · subst h
      simp only [if_true, mget]
      by_cases h2 : a = k'
      · simp [h2]
      · simp [h2, Ne.symm h2]
    · simp only [h, if_false, mget, mget_mput k k' v r]
      by_cases h2 : a = k'
      · subst h2; simp [h]
      · simp [h2]
theorem nxtN {i : Nat} (h : i < 1000000000) : i64 ((i : Int) + 1) = ((i + 1 : Nat) : Int) := by rw [i64_of (by omega) (by omega)]; rfl
theorem idx_mid {α : Type} {p : List α} {x : α} {s : List α} {n : Nat} (h : p.length = n) : idx (p ++ x :: s) (n : Int) = some x := by rw [← h]; exact idx_at p x s
theorem set_mid {α : Type} {p : List α} {x y : α} {s : List α} {n : Nat} (h : p.length = n) : (p ++ x :: s).set (n : Int).toNat y = p ++ y :: s := by
  simp [← h]
theorem split_loop {F0 : List GRegisterEvent} {p1 : GRegisterEvent → Option GStamp} {p2 : GRegisterEvent → GRegisterEvent → Option Bool} (hb : F0.length < 1000000) (h1 : ∀ a ∈ F0, p1 a = some a.Stamp) (h2 : ∀ a ∈ F0, ∀ b ∈ F0, p2 a b = some (decide (a = b))) (z : GStamp) :
    ∀ (s p : List GRegisterEvent) (n : Nat) (m : List (GStamp × Int)), F0 = p ++ s → s.length < n → (∀ x, mget m x = (p.findIdx? fun y => decide (y.Stamp = x)).map Int.ofNat) →
      copies_Split_RegisterEvent_L1 F0 p1 p2 n (p.length : Int) (p.map (·.Stamp) ++ List.replicate s.length z) (p.map (fun x => if F0.find? (fun y => decide (y.Stamp = x.Stamp)) = some x then 0 else 1) ++ List.replicate s.length 0) m
        = some (F0.map (·.Stamp), clsP (·.Stamp) F0) := by
  intro s
  induction s with
  | nil =>
    intro p n m hp hn hm
    cases n with
    | zero => omega
    | succ n =>
      have : F0 = p := by simpa using hp
      subst this
      simp only [copies_Split_RegisterEvent_L1, copies_Split_RegisterEvent_L1_B, Int.lt_irrefl, decide_false, Bool.false_eq_true, if_false, List.length_nil, List.replicate_zero, List.append_nil, clsP]
  | cons x s ih =>
    intro p n m hp hn hm
    cases n with
    | zero => omega
    | succ n =>
      have hx : x ∈ F0 := by rw [hp]; simp
      have hlen : p.length < 1000000 := by rw [hp] at hb; simp at hb; omega
      have d1 : decide ((p.length : Int) < (F0.length : Int)) = true := by rw [hp]; exact dlt p x s
      have i1 : idx F0 (p.length : Int) = some x := by rw [hp]; exact idx_at p x s
      simp only [copies_Split_RegisterEvent_L1, copies_Split_RegisterEvent_L1_B, d1, if_true, i1, Option.bind_some, h1 x hx, List.length_cons, List.replicate_succ]
      rw [idx_mid (by simp), set_mid (by simp), idx_mid (by simp)]
      simp only [Option.bind_some, nxtN (show p.length < 1000000000 by omega), hm]
      have hlen' : ((p.length + 1 : Nat) : Int) = ((p ++ [x]).length : Int) := by simp
      have hst : p.map (·.Stamp) ++ x.Stamp :: List.replicate s.length z = (p ++ [x]).map (·.Stamp) ++ List.replicate s.length z := by simp
      have hF : F0 = (p ++ [x]) ++ s := by rw [hp]; simp
      have hfx : ∀ q : GRegisterEvent → Bool, F0.find? q = ((p.find? q).or (if q x then some x else s.find? q)) := fun q => by
        rw [hp, List.find?_append, List.find?_cons]
        cases q x <;> simp
      cases hj : p.findIdx? (fun y => decide (y.Stamp = x.Stamp)) with
      | none =>
        simp only [Option.map_none, Option.isSome_none, Bool.not_false, if_true]
        have hpn : p.find? (fun y => decide (y.Stamp = x.Stamp)) = .none := by
          rw [List.findIdx?_eq_none_iff] at hj
          rw [List.find?_eq_none]; intro y hy; simpa using hj y hy
        have hc : F0.find? (fun y => decide (y.Stamp = x.Stamp)) = some x := by rw [hfx, hpn]; simp
        have hcl : p.map (fun x => if F0.find? (fun y => decide (y.Stamp = x.Stamp)) = some x then (0 : Int) else 1) ++ 0 :: List.replicate s.length 0 = (p ++ [x]).map (fun x => if F0.find? (fun y => decide (y.Stamp = x.Stamp)) = some x then (0 : Int) else 1) ++ List.replicate s.length 0 := by
          simp [hc]
        rw [hcl, hst, hlen']
        refine ih (p ++ [x]) n _ hF (by simpa using hn) fun y => ?_
        rw [mget_mput, hm, List.findIdx?_append]
        by_cases hyx : y = x.Stamp
        · subst hyx; simp [hj, List.findIdx?_cons]
        · rw [if_neg hyx]
          cases p.findIdx? (fun z => decide (z.Stamp = y)) with
          | none => simp [List.findIdx?_cons, Ne.symm hyx]
          | some j => simp
      | some j =>
        rw [List.findIdx?_eq_some_iff_getElem] at hj
        obtain ⟨hjl, hj1, hj2⟩ := hj
        simp only [decide_eq_true_eq] at hj1
        have hpf : p.find? (fun y => decide (y.Stamp = x.Stamp)) = some p[j] := by
          rw [List.find?_eq_some_iff_getElem]
          exact ⟨by simpa using hj1, j, hjl, rfl, fun k hk => by simpa using hj2 k hk⟩
        have hfj : idx F0 (j : Int) = some p[j] := by
          rw [idx_nat, hp, List.getElem?_append_left hjl]; simp [hjl]
        have hpj : p[j] ∈ F0 := by rw [hp]; simp
        have hc : F0.find? (fun y => decide (y.Stamp = x.Stamp)) = some p[j] := by rw [hfx, hpf]; simp
        simp only [Option.map_some, Option.isSome_some, Bool.not_true, Bool.false_eq_true, if_false, Option.getD_some]
        have hm' : ∀ y, mget m y = ((p ++ [x]).findIdx? fun z => decide (z.Stamp = y)).map Int.ofNat := fun y => by
          rw [hm, List.findIdx?_append]
          cases hq : p.findIdx? (fun z => decide (z.Stamp = y)) with
          | some j => simp
          | none =>
            have : ¬ x.Stamp = y := fun hxy => by
              subst hxy
              rw [List.findIdx?_eq_none_iff] at hq
              have := hq p[j] (by simp)
              simp [hj1] at this
            simp [List.findIdx?_cons, this]
        show (idx F0 ((j : Nat) : Int)).bind _ = _
        rw [hfj]
        simp only [Option.bind_some, h2 _ hpj _ hx]
        by_cases he : p[j] = x
        · have hcl : p.map (fun x => if F0.find? (fun y => decide (y.Stamp = x.Stamp)) = some x then (0 : Int) else 1) ++ 0 :: List.replicate s.length 0 = (p ++ [x]).map (fun x => if F0.find? (fun y => decide (y.Stamp = x.Stamp)) = some x then (0 : Int) else 1) ++ List.replicate s.length 0 := by
            simp [hc, he]
          simp only [he, decide_true, Bool.not_true, Bool.false_eq_true, if_false]
          rw [hcl, hst, hlen']
          exact ih (p ++ [x]) n _ hF (by simpa using hn) hm'
        · have hcl : p.map (fun x => if F0.find? (fun y => decide (y.Stamp = x.Stamp)) = some x then (0 : Int) else 1) ++ 1 :: List.replicate s.length 0 = (p ++ [x]).map (fun x => if F0.find? (fun y => decide (y.Stamp = x.Stamp)) = some x then (0 : Int) else 1) ++ List.replicate s.length 0 := by
            simp [hc, he]
          simp only [he, decide_false, Bool.not_false, if_true]
          rw [idx_mid (by simp), set_mid (by simp)]
          simp only [Option.bind_some]
          rw [hcl, hst, hlen']
          exact ih (p ++ [x]) n _ hF (by simpa using hn) hm'
theorem split_s {F : Nat} {l : List GRegisterEvent} {p1 : GRegisterEvent → Option GStamp} {p2 : GRegisterEvent → GRegisterEvent → Option Bool} (hb : l.length < 1000000) (hF : l.length < F) (h1 : ∀ a ∈ l, p1 a = some a.Stamp) (h2 : ∀ a ∈ l, ∀ b ∈ l, p2 a b = some (decide (a = b))) :
    copies_Split_RegisterEvent F l p1 p2 = some (l.map (·.Stamp), clsP (·.Stamp) l) := by
  unfold copies_Split_RegisterEvent
  rw [mkl_of (by omega), Option.bind_some, mkl_of (by omega), Option.bind_some]
  exact split_loop hb h1 h2 _ l [] F [] rfl hF fun x => by simp [mget]
theorem copiesCanonical_s {F : Nat} (h10 : 10 ≤ F) {l : List GRegisterEvent} {p1 : GRegisterEvent → Option GStamp} {p2 : GRegisterEvent → GRegisterEvent → Option Bool} (hb : l.length < 1000000) (hF : l.length < F) (h1 : ∀ a ∈ l, p1 a = some a.Stamp) (h2 : ∀ a ∈ l, ∀ b ∈ l, p2 a b = some (decide (a = b))) :
    copies_Canonical_RegisterEvent F l p1 p2 = some (canonS (l.map (·.Stamp)) (clsP (·.Stamp) l)) := by
  unfold copies_Canonical_RegisterEvent
  rw [split_s hb hF h1 h2]
  simp only [Option.bind_some]
  rw [canonical_e h10 (by simpa using hb) (by simpa using hF)]
  rfl
theorem fill_loop {l : List GRegisterEvent} {a : List Int} {c : Int} (ha : ∀ i ∈ a, 0 ≤ i ∧ i.toNat < l.length) (hb : a.length < 1000000) (z : GRegisterEvent) : ∀ (s p : List Int) (n : Nat), a = p ++ s → s.length < n →
    attendance_Canonical_L1 l (a, c) n (p.length : Int) (pickL l p ++ List.replicate s.length z) = some (pickL l a, 0) := by
  intro s
  induction s with
  | nil =>
    intro p n hp hn
    cases n with
    | zero => omega
    | succ n =>
      have : a = p := by simpa using hp
      subst this
      simp only [attendance_Canonical_L1, attendance_Canonical_L1_B, Int.lt_irrefl, decide_false, Bool.false_eq_true, if_false, List.length_nil, List.replicate_zero, List.append_nil]
  | cons x s ih =>
    intro p n hp hn
    cases n with
    | zero => omega
    | succ n =>
      have hx := ha x (by rw [hp]; simp)
      have hpl : (pickL l p).length = p.length := pickL_len fun i hi => (ha i (by rw [hp]; simp [hi])).2
      have hlen : p.length < 1000000 := by rw [hp] at hb; simp at hb; omega
      have d1 : decide ((p.length : Int) < (a.length : Int)) = true := by rw [hp]; exact dlt p x s
      have i1 : idx a (p.length : Int) = some x := by rw [hp]; exact idx_at p x s
      have i2 : idx l x = some l[x.toNat] := by rw [idx_some]; exact ⟨hx.1, by simp [hx.2]⟩
      simp only [attendance_Canonical_L1, attendance_Canonical_L1_B, d1, if_true, i1, i2, Option.bind_some, List.length_cons, List.replicate_succ]
      rw [idx_mid hpl, set_mid hpl]
      simp only [Option.bind_some, nxtN (show p.length < 1000000000 by omega)]
      have e1 : pickL l p ++ l[x.toNat] :: List.replicate s.length z = pickL l (p ++ [x]) ++ List.replicate s.length z := by simp [pickL, hx.2]
      have e2 : ((p.length + 1 : Nat) : Int) = ((p ++ [x]).length : Int) := by simp
      rw [e1, e2]
      exact ih (p ++ [x]) n (by simp [hp]) (by simpa using hn)
theorem canonicalP_s {F : Nat} (h10 : 10 ≤ F) {l : List GRegisterEvent} (hb : l.length < 1000000) (hF : l.length < F) : attendance_Canonical F l = some (canonEv (·.Stamp) l) := by
  unfold attendance_Canonical
  rw [copiesCanonical_s (p1 := fun a0 => attendance_Canonical_1 a0) (p2 := (fun a0 a1 => attendance_Same a0 a1)) h10 hb hF (fun a _ => rfl) (fun a _ b _ => rfl)]
  rw [canonS_ev (clsP_ok _ _)]
  simp only [Option.bind_some, canonEv]
  by_cases h : 300 < (evL (·.Stamp) l).length
  · simp [h]
  · have hlen := canonL_len (l.map (·.Stamp)) (clsP (·.Stamp) l)
    rw [List.length_map] at hlen
    simp only [h, if_false, bne_self_eq_false, Bool.false_eq_true]
    rw [mkl_of (by omega)]
    simp only [Option.bind_some]
    rw [← evL_of (clsP_ok (·.Stamp) l)]
    refine fill_loop (fun i hi => ?_) (by omega) _ _ [] F rfl (Nat.lt_of_le_of_lt hlen hF)
    have := canonL_lt hi
    exact ⟨this.1, by simpa using this.2⟩
/- the document's -/
theorem back_loop {l : List GRegisterEvent} {i : Nat} (hi : i < l.length) (hb : l.length < 1000000) (rec1 : Int → List GStamp → List Int → Option (List GRegisterEvent × Int)) (l2 : List GStamp) (l3 : List Int) (h2 : l2.length < 1000000) (h3 : l3.length < 1000000) :
    ∀ (k n : Nat), k ≤ i → k < n → ref16_Canonical_L2 rec1 l i l2 l3 n ((k : Int) + ((l.drop k).findIdx fun y => decide (y = l[i]) : Nat)) ((k : Int) - 1) = rec1 ((i + 1 : Nat) : Int) (l2 ++ [l[i].Stamp]) (l3 ++ [((l.findIdx fun y => decide (y = l[i]) : Nat) : Int)]) := by
  intro k
  induction k with
  | zero =>
    intro n hk hn
    cases n with
    | zero => omega
    | succ n =>
      have d : decide (((0 : Nat) : Int) - 1 ≥ 0) = false := by simp
      simp only [ref16_Canonical_L2, ref16_Canonical_L2_B, d, Bool.false_eq_true, if_false, idx_lt hi, Option.bind_some]
      rw [app_of (by simp; omega), Option.bind_some, app_of (by simp; omega), Option.bind_some, nxtN (by omega)]
      simp
  | succ k ih =>
    intro n hk hn
    cases n with
    | zero => omega
    | succ n =>
      have d : decide (((k + 1 : Nat) : Int) - 1 ≥ 0) = true := by simp
      have e : ((k + 1 : Nat) : Int) - 1 = (k : Int) := by omega
      have hkl : k < l.length := by omega
      simp only [ref16_Canonical_L2, ref16_Canonical_L2_B, d, if_true]
      rw [e]
      simp only [idx_lt hi, idx_lt hkl, Option.bind_some]
      rw [i64_of (by omega) (by omega)]
      have hd : l.drop k = l[k] :: l.drop (k + 1) := (List.drop_eq_getElem_cons hkl)
      have := ih n (by omega) (by omega)
      rw [hd, List.findIdx_cons] at this
      by_cases h : l[i] = l[k]
      · simp only [h, decide_true, if_true]
        simp only [h, decide_true, cond_true, Int.ofNat_zero, Int.add_zero] at this
        exact this
      · simp only [h, decide_false, Bool.false_eq_true, if_false]
        simp only [Ne.symm h, decide_false, cond_false] at this
        rw [← this]
        congr 1
        omega
theorem pick_loop {l : List GRegisterEvent} {a : List Int} {c : Int} (ha : ∀ i ∈ a, 0 ≤ i ∧ i.toNat < l.length) (hb : a.length < 1000000) : ∀ (s p : List Int) (n : Nat), a = p ++ s → s.length < n →
    ref16_Canonical_L3 l (a, c) n (p.length : Int) (pickL l p) = some (pickL l a, 0) := by
  intro s
  induction s with
  | nil =>
    intro p n hp hn
    cases n with
    | zero => omega
    | succ n =>
      have : a = p := by simpa using hp
      subst this
      simp only [ref16_Canonical_L3, ref16_Canonical_L3_B, Int.lt_irrefl, decide_false, Bool.false_eq_true, if_false]
  | cons x s ih =>
    intro p n hp hn
    cases n with
    | zero => omega
    | succ n =>
      have hx := ha x (by rw [hp]; simp)
      have hpl : (pickL l p).length = p.length := pickL_len fun i hi => (ha i (by rw [hp]; simp [hi])).2
      have hlen : p.length < 1000000 := by rw [hp] at hb; simp at hb; omega
      have d1 : decide ((p.length : Int) < (a.length : Int)) = true := by rw [hp]; exact dlt p x s
      have i1 : idx a (p.length : Int) = some x := by rw [hp]; exact idx_at p x s
      have i2 : idx l x = some l[x.toNat] := by rw [idx_some]; exact ⟨hx.1, by simp [hx.2]⟩
      simp only [ref16_Canonical_L3, ref16_Canonical_L3_B, d1, if_true, i1, i2, Option.bind_some]
      rw [app_of (by simp; omega)]
      simp only [Option.bind_some, nxtN (show p.length < 1000000000 by omega)]
      have e1 : pickL l p ++ [l[x.toNat]] = pickL l (p ++ [x]) := by simp [pickL, hx.2]
      have e2 : ((p.length + 1 : Nat) : Int) = ((p ++ [x]).length : Int) := by simp
      rw [e1, e2]
      exact ih (p ++ [x]) n (by simp [hp]) (by simpa using hn)
theorem canonicalR_loop {F : Nat} {l : List GRegisterEvent} (hb : l.length < 1000000) (hF : l.length < F) : ∀ (j n i : Nat), i + j = l.length → j < n →
    ref16_Canonical_L1 F l n (i : Int) ((l.take i).map (·.Stamp)) ((clsR l).take i) = some (canonEv (·.Stamp) l) := by
  intro j
  induction j with
  | zero =>
    intro n i hij hn
    cases n with
    | zero => omega
    | succ n =>
      have hi : i = l.length := by omega
      subst hi
      have hc : (clsR l).take l.length = clsR l := List.take_of_length_le (by simp [clsR])
      simp only [ref16_Canonical_L1, ref16_Canonical_L1_B, Int.lt_irrefl, decide_false, Bool.false_eq_true, if_false, List.take_length, hc]
      rw [refCanonical_e (by simpa using hb) (by simpa using hF), canonS_ev (clsR_ok _ _)]
      simp only [Option.bind_some, canonEv]
      by_cases h : 300 < (evL (·.Stamp) l).length
      · simp [h]
      · have hlen := canonL_len (l.map (·.Stamp)) (clsR l)
        rw [List.length_map] at hlen
        simp only [h, if_false, bne_self_eq_false, Bool.false_eq_true]
        refine pick_loop (fun i hi => ?_) (by omega) _ [] F rfl (Nat.lt_of_le_of_lt hlen hF)
        have := canonL_lt hi
        exact ⟨this.1, by simpa using this.2⟩
  | succ j ih =>
    intro n i hij hn
    cases n with
    | zero => omega
    | succ n =>
      have hi : i < l.length := by omega
      have d1 : decide ((i : Int) < (l.length : Int)) = true := by simp; omega
      simp only [ref16_Canonical_L1, ref16_Canonical_L1_B, d1, if_true]
      have hbk := back_loop hi hb (ref16_Canonical_L1 F l n) ((l.take i).map (·.Stamp)) ((clsR l).take i) (by simp; omega) (by simp [clsR]; omega) i F (by omega) (by omega)
      have h0 : (l.drop i).findIdx (fun y => decide (y = l[i])) = 0 := by rw [List.drop_eq_getElem_cons hi, List.findIdx_cons]; simp
      rw [h0] at hbk
      simp only [Int.ofNat_zero, Int.add_zero] at hbk
      rw [i64_of (by omega) (by omega), hbk]
      have e1 : (l.take i).map (·.Stamp) ++ [l[i].Stamp] = (l.take (i + 1)).map (·.Stamp) := by
        rw [List.take_add_one, List.map_append]; simp [hi, -List.map_take]
      have e2 : (clsR l).take i ++ [((l.findIdx fun y => decide (y = l[i]) : Nat) : Int)] = (clsR l).take (i + 1) := by rw [List.take_add_one]; simp [clsR, hi]
      rw [e1, e2]
      exact ih n (i + 1) (by omega) (by omega)
theorem canonicalR_s {F : Nat} {l : List GRegisterEvent} (hb : l.length < 1000000) (hF : l.length < F) : ref16_Canonical F l = some (canonEv (·.Stamp) l) :=
  canonicalR_loop hb hF l.length F 0 (by omega) hF
end Go.Sh
