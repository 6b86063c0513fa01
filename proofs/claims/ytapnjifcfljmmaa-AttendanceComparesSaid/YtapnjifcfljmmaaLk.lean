/- A logic over logical memory, part 12: a region that draws its order. -/
import Derived.Test.YtapnjifcfljmmaaLs
set_option linter.unusedVariables false
set_option linter.unusedSimpArgs false
namespace Go.L
section
variable {P : Program} {N : Nat} {pr : Nat → Prop} {ro : List Nat} {o : Oper} {ev ev' : Operand → LV} {m : Mem} {K : LV → Mem → Prop}

theorem loadC_out {t : TypeId} {cs : List LV} {K : LV → Prop} (h : loadC P t cs K) : ∃ lv, K lv ∧ ∀ K' : LV → Prop, K' lv → loadC P t cs K' := by
  obtain ⟨ht, h⟩ := h
  by_cases hg : tagg P t = true
  · rw [if_pos hg] at h
    exact ⟨_, h.2, fun K' hK => ⟨ht, by rw [if_pos hg]; exact ⟨h.1, hK⟩⟩⟩
  · rw [if_neg hg] at h
    match cs, h with
    | x :: cs, h => exact ⟨x, h, fun K' hK => ⟨ht, by rw [if_neg hg]; exact hK⟩⟩

theorem intBin_out {op : BinOp} {k : IntKind} {a b : Int} {K : LV → Prop} (h : intBin op k a b K) : ∃ lv, K lv ∧ ∀ K' : LV → Prop, K' lv → intBin op k a b K' := by
  cases op <;> simp only [intBin] at h ⊢ <;> first | exact h.elim | exact ⟨_, h, fun K' hK => hK⟩ | exact ⟨_, h.2, fun K' hK => ⟨h.1, hK⟩⟩

theorem put_ne_none {m : Mem} {id : Nat} {x : LE} : m.put id x ≠ Mem.none := fun h => by
  have := congrFun h id
  simp [Mem.put, Mem.none] at this

/-- The outcome of an operation; and where it needs no memory and makes none it is the same over every memory. -/
theorem LOp_out (h : LOp P pr ro o ev m K) : ∃ lv m', K lv m' ∧ (∀ K' : LV → Mem → Prop, K' lv m' → LOp P pr ro o ev m K') ∧ (m = Mem.none → m' = Mem.none → ∀ m0, ∀ K' : LV → Mem → Prop, K' lv m0 → LOp P pr ro o ev m0 K') := by
  have plain : ∀ lv, K lv m → (∀ m0, ∀ K' : LV → Mem → Prop, K' lv m0 → LOp P pr ro o ev m0 K') → ∃ lv m', K lv m' ∧ (∀ K' : LV → Mem → Prop, K' lv m' → LOp P pr ro o ev m K') ∧ (m = Mem.none → m' = Mem.none → ∀ m0, ∀ K' : LV → Mem → Prop, K' lv m0 → LOp P pr ro o ev m0 K') :=
    fun lv hK hall => ⟨lv, m, hK, fun K' hK' => hall m K' hK', fun _ _ => hall⟩
  have reader : ∀ lv, K lv m → (∀ K' : LV → Mem → Prop, K' lv m → LOp P pr ro o ev m K') → (m = Mem.none → False) → ∃ lv m', K lv m' ∧ (∀ K' : LV → Mem → Prop, K' lv m' → LOp P pr ro o ev m K') ∧ (m = Mem.none → m' = Mem.none → ∀ m0, ∀ K' : LV → Mem → Prop, K' lv m0 → LOp P pr ro o ev m0 K') :=
    fun lv hK hall hn => ⟨lv, m, hK, hall, fun h0 => (hn h0).elim⟩
  have writer : ∀ lv id x, K lv (m.put id x) → (∀ K' : LV → Mem → Prop, K' lv (m.put id x) → LOp P pr ro o ev m K') → ∃ lv m', K lv m' ∧ (∀ K' : LV → Mem → Prop, K' lv m' → LOp P pr ro o ev m K') ∧ (m = Mem.none → m' = Mem.none → ∀ m0, ∀ K' : LV → Mem → Prop, K' lv m0 → LOp P pr ro o ev m0 K') :=
    fun lv id x hK hall => ⟨lv, _, hK, hall, fun _ h0 => absurd h0 put_ne_none⟩
  obtain ⟨d, op, ty, pos, af, g⟩ := o
  cases op
  case move x => exact plain _ h fun m0 K' hK => hK
  case assign x => exact plain _ h fun m0 K' hK => hK
  case pick c a b =>
    simp only [LOp] at h
    cases hc : ev c <;> simp only [hc] at h
    case bool t => exact plain _ h fun m0 K' hK => by simp only [LOp, hc]; exact hK
  case alloc t =>
    simp only [LOp] at h
    split at h
    · rename_i z i hz
      exact writer _ _ _ h.2 fun K' hK => by simp only [LOp, hz]; exact ⟨h.1, hK⟩
    · cases h
  case box t x =>
    simp only [LOp] at h
    split at h
    · rename_i i
      obtain ⟨hs, h⟩ := h
      split at h
      · rename_i hro
        exact plain _ h fun m0 K' hK => by simp only [LOp]; exact ⟨hs, by rw [if_pos hro]; exact hK⟩
      · rename_i hro
        exact writer _ _ _ h.2 fun K' hK => by simp only [LOp]; exact ⟨hs, by rw [if_neg hro]; exact ⟨h.1, hK⟩⟩
    · cases h
  case build t parts =>
    simp only [LOp] at h
    obtain ⟨htb, h⟩ := h
    split at h
    · rename_i z hz
      split at h
      · rename_i cs hf
        exact plain _ h fun m0 K' hK => by simp only [LOp, hz, hf]; exact ⟨htb, hK⟩
      · cases h
    · cases h
  case buildSlice t len parts =>
    simp only [LOp] at h
    cases hte : telem P t <;> simp only [hte] at h
    case some e =>
      obtain ⟨h1, h2, h3, h4, hK⟩ := h
      exact plain _ hK fun m0 K' hK => by simp only [LOp, hte]; exact ⟨h1, h2, h3, h4, hK⟩
  case load t a =>
    simp only [LOp] at h
    cases hx : ev a <;> simp only [hx] at h
    case sptr cs =>
      obtain ⟨lv, hK, hl⟩ := loadC_out h
      exact plain lv hK fun m0 K' hK' => by simp only [LOp, hx]; exact hl _ hK'
    case ptr id o =>
      cases hm : m id with
      | none => simp [hm] at h
      | some le =>
        cases le with
        | map _ _ _ => simp [hm] at h
        | nest _ _ _ _ => simp [hm] at h
        | dead => simp [hm] at h
        | arr e k xs => simp [hm] at h
        | box cs =>
          simp only [hm] at h
          obtain ⟨ho, h⟩ := h
          obtain ⟨lv, hK, hl⟩ := loadC_out h
          exact reader lv hK (fun K' hK' => by simp only [LOp, hx, hm]; exact ⟨ho, hl _ hK'⟩) (fun h0 => by rw [h0] at hm; cases hm)
    case eptr id n i o =>
      cases hm : m id with
      | none => simp [hm] at h
      | some le =>
        cases le with
        | map _ _ _ => simp [hm] at h
        | nest _ _ _ _ => simp [hm] at h
        | dead => simp [hm] at h
        | box cs => simp [hm] at h
        | arr e k xs =>
          simp only [hm] at h
          obtain ⟨h1, x, h2, h3, h4, h⟩ := h
          obtain ⟨lv, hK, hl⟩ := loadC_out h
          exact reader lv hK (fun K' hK' => by simp only [LOp, hx, hm]; exact ⟨h1, x, h2, h3, h4, hl _ hK'⟩) (fun h0 => by rw [h0] at hm; cases hm)
  case store t a x =>
    simp only [LOp] at h
    obtain ⟨h1, h2, h3, h⟩ := h
    cases hx : ev a <;> simp only [hx] at h
    case ptr id o =>
      cases hm : m id with
      | none => simp [hm] at h
      | some le =>
        cases le with
        | map _ _ _ => simp [hm] at h
        | nest _ _ _ _ => simp [hm] at h
        | dead => simp [hm] at h
        | arr e k xs => simp [hm] at h
        | box cs =>
          simp only [hm] at h
          exact writer _ _ _ h.2 fun K' hK => by simp only [LOp, hx, hm]; exact ⟨h1, h2, h3, h.1, hK⟩
    case eptr id n i o =>
      cases hm : m id with
      | none => simp [hm] at h
      | some le =>
        cases le with
        | map _ _ _ => simp [hm] at h
        | nest _ _ _ _ => simp [hm] at h
        | dead => simp [hm] at h
        | box cs => simp [hm] at h
        | arr e k xs =>
          simp only [hm] at h
          obtain ⟨h4, h5, y, z, h6, h7, hK⟩ := h
          exact writer _ _ _ hK fun K' hK => by simp only [LOp, hx, hm]; exact ⟨h1, h2, h3, h4, h5, y, z, h6, h7, hK⟩
  case nilCheck x =>
    simp only [LOp] at h
    cases hx : ev x <;> simp only [hx] at h
    case ptr => exact plain _ h fun m0 K' hK => by simp only [LOp, hx]; exact hK
    case sptr => exact plain _ h fun m0 K' hK => by simp only [LOp, hx]; exact hK
    case fn => exact plain _ h fun m0 K' hK => by simp only [LOp, hx]; exact hK
    case eptr id n i o =>
      obtain ⟨h1, hK⟩ := h
      refine reader _ hK (fun K' hK => by simp only [LOp, hx]; exact ⟨h1, hK⟩) (fun h0 => ?_)
      rw [h0] at h1; simp [Mem.none] at h1
  case binOp op t x y t' =>
    simp only [LOp] at h
    cases hx : ev x <;> simp only [hx] at h
    case int k a =>
      cases hy : ev y <;> simp only [hy] at h
      case int k' b =>
        obtain ⟨h1, h⟩ := h
        obtain ⟨lv, hK, hl⟩ := intBin_out h
        exact plain lv hK fun m0 K' hK' => by simp only [LOp, hx, hy]; exact ⟨h1, hl _ hK'⟩
    case bool a =>
      cases hy : ev y <;> simp only [hy] at h
      case bool b =>
        obtain ⟨h1, h⟩ := h
        cases op <;> simp only [] at h
        case eql => exact plain _ h fun m0 K' hK => by simp only [LOp, hx, hy]; exact ⟨h1, hK⟩
        case neq => exact plain _ h fun m0 K' hK => by simp only [LOp, hx, hy]; exact ⟨h1, hK⟩
    case agg xs =>
      cases hy : ev y <;> simp only [hy] at h
      case agg ys =>
        obtain ⟨b, h1, h⟩ := h
        cases op <;> simp only [] at h
        case eql => exact plain _ h fun m0 K' hK => by simp only [LOp, hx, hy]; exact ⟨b, h1, hK⟩
        case neq => exact plain _ h fun m0 K' hK => by simp only [LOp, hx, hy]; exact ⟨b, h1, hK⟩
  case unOp op t x =>
    simp only [LOp] at h
    cases op <;> cases hx : ev x <;> simp only [hx] at h
    case neg.int => exact plain _ h fun m0 K' hK => by simp only [LOp, hx]; exact hK
    case not.bool => exact plain _ h fun m0 K' hK => by simp only [LOp, hx]; exact hK
  case convert s t x =>
    simp only [LOp] at h
    obtain ⟨h1, h⟩ := h
    cases ht : tint P t <;> simp only [ht] at h
    case some k =>
      cases hx : ev x <;> simp only [hx] at h
      case int => exact plain _ h fun m0 K' hK => by simp only [LOp, ht, hx]; exact ⟨h1, hK⟩
  case slice t x lo hi mx =>
    simp only [LOp] at h
    obtain ⟨h1, h2, h3, h⟩ := h
    cases hx : ev x <;> simp only [hx] at h
    case lst k xs =>
      obtain ⟨h4, l, q, h5, h6, h7, h8, hK⟩ := h
      exact plain _ hK fun m0 K' hK => by simp only [LOp, hx]; exact ⟨h1, h2, h3, h4, l, q, h5, h6, h7, h8, hK⟩
    case nil =>
      obtain ⟨h5, h6, hK⟩ := h
      exact plain _ hK fun m0 K' hK => by simp only [LOp, hx]; exact ⟨h1, h2, h3, h5, h6, hK⟩
  case fieldAddr t x f =>
    simp only [LOp] at h
    cases htf : tfield P t f <;> simp only [htf] at h
    case some q =>
      obtain ⟨off, ft⟩ := q
      obtain ⟨h1, h2, h⟩ := h
      cases hx : ev x <;> simp only [hx] at h
      case sptr cs => exact plain _ h.2 fun m0 K' hK => by simp only [LOp, htf, hx]; exact ⟨h1, h2, h.1, hK⟩
      case ptr => exact plain _ h fun m0 K' hK => by simp only [LOp, htf, hx]; exact ⟨h1, h2, hK⟩
      case eptr id n i o =>
        obtain ⟨h3, hK⟩ := h
        refine reader _ hK (fun K' hK => by simp only [LOp, htf, hx]; exact ⟨h1, h2, h3, hK⟩) (fun h0 => ?_)
        rw [h0] at h3; simp [Mem.none] at h3
  case field t x f =>
    simp only [LOp] at h
    cases htf : tfield P t f <;> simp only [htf] at h
    case some q =>
      obtain ⟨off, ft⟩ := q
      cases hx : ev x <;> simp only [hx] at h
      case agg cs =>
        obtain ⟨h1, h⟩ := h
        obtain ⟨lv, hK, hl⟩ := loadC_out h
        exact plain lv hK fun m0 K' hK' => by simp only [LOp, htf, hx]; exact ⟨h1, hl _ hK'⟩
  case indexAddr t x i =>
    simp only [LOp] at h
    cases hte : telem P t <;> simp only [hte] at h
    case some e =>
      cases hx : ev x <;> simp only [hx] at h
      case lst k xs =>
        cases hi : ev i <;> simp only [hi] at h
        case int ki n =>
          obtain ⟨h1, h2, h3, y, h4, h5, hK⟩ := h
          exact plain _ hK fun m0 K' hK => by simp only [LOp, hte, hx, hi]; exact ⟨h1, h2, h3, y, h4, h5, hK⟩
      case arr id l =>
        cases hi : ev i <;> simp only [hi] at h
        case int ki n =>
          cases hm : m id with
          | none => simp [hm] at h
          | some le =>
            cases le with
            | map _ _ _ => simp [hm] at h
            | nest _ _ _ _ => simp [hm] at h
            | dead => simp [hm] at h
            | box cs => simp [hm] at h
            | arr e' k xs =>
              simp only [hm] at h
              obtain ⟨h1, h2, h3, h4, h5, hK⟩ := h
              exact reader _ hK (fun K' hK => by simp only [LOp, hte, hx, hi, hm]; exact ⟨h1, h2, h3, h4, h5, hK⟩) (fun h0 => by rw [h0] at hm; cases hm)
  case extract t i =>
    simp only [LOp] at h
    cases hx : ev t <;> simp only [hx] at h
    case tup vs =>
      obtain ⟨v, h1, hK⟩ := h
      exact plain _ hK fun m0 K' hK => by simp only [LOp, hx]; exact ⟨v, h1, hK⟩
  case makeFunc f first cap =>
    simp only [LOp] at h
    cases f <;> simp only [] at h
    case func f => exact plain _ h.2 fun m0 K' hK => by simp only [LOp]; exact ⟨h.1, hK⟩
  case makeSlice t l c =>
    simp only [LOp] at h
    split at h
    · rename_i e z n n' i hte hz hx hy
      obtain ⟨h1, h2, h3, h4, h5, h6, hK⟩ := h
      refine writer _ _ _ hK fun K' hK => ?_
      rw [hte] at hz
      simp only [LOp, hte, hz, hx, hy]
      exact ⟨h1, h2, h3, h4, h5, h6, hK⟩
    · cases h
  case call c =>
    obtain ⟨callee, args, tys⟩ := c
    cases callee
    case value x =>
      simp only [LOp] at h
      cases hx : ev x <;> simp only [hx] at h
      case fn f cap =>
        obtain ⟨hfn, lv, mc, mc', hc, h1, h2, h3, h4, hK⟩ := h
        refine ⟨lv, _, hK, fun K' hK' => by simp only [LOp, hx]; exact ⟨hfn, lv, mc, mc', hc, h1, h2, h3, h4, hK'⟩, fun hm0 hm' m0 K' hK' => ?_⟩
        subst hm0
        have e1 : mc = Mem.none := by
          funext id
          cases hq : mc id with
          | none => rfl
          | some le => have := h1 id (by simp [hq]); rw [hq] at this; cases this
        have e2 : mc' = Mem.none := by
          funext id
          have := congrFun hm' id
          unfold Mem.over at this
          cases hq : mc' id with
          | none => rfl
          | some le => simp [hq, Mem.none] at this
        subst e1; subst e2
        simp only [LOp, hx]
        exact ⟨hfn, lv, Mem.none, Mem.none, hc, fun id hid => absurd rfl hid, fun id _ hid => absurd rfl hid, h3, h4, by rw [Mem.over_none]; exact hK'⟩
    case builtin b =>
      cases b
      case len =>
        simp only [LOp] at h
        split at h
        · rename_i x t hargs htys
          obtain ⟨h1, h⟩ := h
          cases hx : ev x <;> simp only [hx] at h
          case lst => exact plain _ h fun m0 K' hK => by simp only [LOp, hargs, htys, hx]; exact ⟨h1, hK⟩
          case nil => exact plain _ h fun m0 K' hK => by simp only [LOp, hargs, htys, hx]; exact ⟨h1, hK⟩
          case arr id n =>
            obtain ⟨h2, hK⟩ := h
            refine reader _ hK (fun K' hK => by simp only [LOp, hargs, htys, hx]; exact ⟨h1, h2, hK⟩) (fun h0 => ?_)
            rw [h0] at h2; simp [Mem.none] at h2
        · cases h
      case append =>
        simp only [LOp] at h
        split at h
        · rename_i x y t t' hargs htys
          obtain ⟨h1, h⟩ := h
          cases hte : telem P t <;> simp only [hte] at h
          case some e =>
            obtain ⟨h2, ys, h3, h⟩ := h
            cases hx : ev x <;> simp only [hx] at h
            case arr id n =>
              obtain ⟨h4, h⟩ := h
              cases hm : m id with
              | none => simp [hm] at h
              | some le =>
                cases le with
                | map _ _ _ => simp [hm] at h
                | nest _ _ _ _ => simp [hm] at h
                | dead => simp [hm] at h
                | box cs => simp [hm] at h
                | arr e' k xs =>
                  simp only [hm] at h
                  obtain ⟨h5, h6, h7, h8, hK⟩ := h
                  exact writer _ _ _ hK fun K' hK => by simp only [LOp, hargs, htys, hte, hx, hm]; exact ⟨h1, h2, ys, h3, h4, h5, h6, h7, h8, hK⟩
            case nil =>
              cases d <;> simp only [] at h
              case some i =>
                obtain ⟨h5, h6, hK⟩ := h
                exact writer _ _ _ hK fun K' hK => by simp only [LOp, hargs, htys, hte, hx]; exact ⟨h1, h2, ys, h3, h5, h6, hK⟩
        · cases h
      all_goals exact h.elim
    all_goals exact h.elim
  all_goals exact h.elim

/-- Only the operands count. -/
theorem LOp_congr (hev : ∀ x ∈ o.op.operands, ev x = ev' x) (h : LOp P pr ro o ev m K) : LOp P pr ro o ev' m K := by
  obtain ⟨d, op, ty, pos, af, g⟩ := o
  have mapc : ∀ l : List (Nat × Operand), (∀ x ∈ l.map (·.2), ev x = ev' x) → (l.map fun p => ev p.2) = l.map fun p => ev' p.2 := fun l hl =>
    List.map_congr_left fun p hp => hl _ (List.mem_map.2 ⟨p, hp, rfl⟩)
  have mapc2 : ∀ l : List (Nat × Operand), (∀ x ∈ l.map (·.2), ev x = ev' x) → (l.map fun p => (p.1, ev p.2)) = l.map fun p => (p.1, ev' p.2) := fun l hl =>
    List.map_congr_left fun p hp => by rw [hl _ (List.mem_map.2 ⟨p, hp, rfl⟩)]
  cases op <;> simp only [Op.operands] at hev
  case build t parts => simp only [LOp] at h ⊢; rw [← mapc2 parts.toList (fun x hx => hev x (by simpa using hx))]; exact h
  case buildSlice t n parts => simp only [LOp] at h ⊢; rw [← mapc parts.toList (fun x hx => hev x (by simpa using hx))]; exact h
  case makeFunc f first cap =>
    simp only [LOp] at h ⊢
    cases f <;> simp only [] at h ⊢
    case func f => rw [← List.map_congr_left (f := ev) (g := ev') (l := cap.toList) (fun x hx => hev x (by simp at hx ⊢; exact .inr hx))]; exact h
  case slice t x lo hi mx =>
    have hx := hev x (by simp)
    cases lo with
    | none =>
      cases hi with
      | none => simp only [LOp] at h ⊢; rw [← hx]; exact h
      | some q => have hq := hev q (by simp); simp only [LOp] at h ⊢; rw [← hx, ← hq]; exact h
    | some r =>
      have hr := hev r (by simp)
      cases hi with
      | none => simp only [LOp] at h ⊢; rw [← hx, ← hr]; exact h
      | some q => have hq := hev q (by simp); simp only [LOp] at h ⊢; rw [← hx, ← hr, ← hq]; exact h
  case move x => simp only [LOp] at h ⊢; rw [← hev x (by simp)]; exact h
  case assign x => simp only [LOp] at h ⊢; rw [← hev x (by simp)]; exact h
  case pick x y z => simp only [LOp] at h ⊢; rw [← hev x (by simp), ← hev y (by simp), ← hev z (by simp)]; exact h
  case alloc t => simp only [LOp] at h ⊢; exact h
  case box t x => simp only [LOp] at h ⊢; rw [← hev x (by simp)]; exact h
  case load t x => simp only [LOp] at h ⊢; rw [← hev x (by simp)]; exact h
  case store t x y => simp only [LOp] at h ⊢; rw [← hev x (by simp), ← hev y (by simp)]; exact h
  case nilCheck x => simp only [LOp] at h ⊢; rw [← hev x (by simp)]; exact h
  case binOp op t x y t' => simp only [LOp] at h ⊢; rw [← hev x (by simp), ← hev y (by simp)]; exact h
  case unOp op t x => simp only [LOp] at h ⊢; rw [← hev x (by simp)]; exact h
  case convert s t x => simp only [LOp] at h ⊢; rw [← hev x (by simp)]; exact h
  case fieldAddr t x f => simp only [LOp] at h ⊢; rw [← hev x (by simp)]; exact h
  case field t x f => simp only [LOp] at h ⊢; rw [← hev x (by simp)]; exact h
  case indexAddr t x y => simp only [LOp] at h ⊢; rw [← hev x (by simp), ← hev y (by simp)]; exact h
  case extract x i => simp only [LOp] at h ⊢; rw [← hev x (by simp)]; exact h
  case makeSlice t x y => simp only [LOp] at h ⊢; rw [← hev x (by simp), ← hev y (by simp)]; exact h
  case call c =>
    obtain ⟨callee, args, tys⟩ := c
    have hargs : args.toList.map ev = args.toList.map ev' := List.map_congr_left fun x hx => hev x (by simp [Call.operands]; exact .inr (by simpa using hx))
    cases callee
    case value x =>
      simp only [LOp] at h ⊢
      rw [← hev x (by simp [Call.operands]), ← hargs]; exact h
    case builtin b =>
      cases b <;> simp only [LOp] at h ⊢
      case len =>
        split at h
        · rename_i x t hx ht
          rw [← hev x (by simp [Call.operands]; rw [← Array.mem_toList_iff, hx]; simp)]; exact h
        · cases h
      case append =>
        split at h
        · rename_i x y t t' hx ht
          rw [← hev x (by simp [Call.operands]; rw [← Array.mem_toList_iff, hx]; simp), ← hev y (by simp [Call.operands]; rw [← Array.mem_toList_iff, hx]; simp)]; exact h
        · cases h
    all_goals exact h.elim
  all_goals exact h.elim
end
end Go.L
