/- A logic over logical memory, part 8: append, make, literals; and the one law of all operations. -/
import Derived.Test.YtapnjifcfljmmaaLg
set_option linter.unusedVariables false
set_option linter.unusedSimpArgs false
namespace Go.L
section ops
variable {P : Program} {pr : Nat → Prop} {o : Oper} {ev : Operand → LV} {m m' : Mem} {lv : LV} {K : LV → Mem → Prop}

theorem row_of {e : TypeId} (h : trow P e = true) : ∃ i z, P.info? e = some i ∧ i.zero = some z ∧ z.cells.size = i.size ∧ (∀ v ∈ z.cells, v.oneCell' = true) ∧ 0 < i.size ∧ i.bytes ≤ 128 ∧ tsize P e = i.size := by
  unfold trow at h
  split at h
  · rename_i i hi
    split at h
    · rename_i z hz
      simp only [Bool.and_eq_true, decide_eq_true_eq, beq_iff_eq] at h
      exact ⟨i, z, hi, hz, h.1.1.1, fun v hv => (Array.all_eq_true_iff_forall_mem.1 h.1.1.2) v hv, h.1.2, h.2, by simp [tsize, hi]⟩
    · simp at h
  · cases h

/-- what a source of an append gives -/
theorem src_of {c : Cx} {y : LV} {ys : List LV} {k : Nat} {v : Value} (hy : y = .lst k ys ∨ (y = .nil ∧ ys = [])) (hv : RepV c y v) :
    (ys = [] ∧ v = .slice .none 0 0) ∨ ∃ ad cap us, v = .slice (some ad) ys.length cap ∧ RepL c ys us ∧ (∀ u ∈ us, u.cells.size = k ∧ ∀ y ∈ u.cells, y.oneCell' = true) ∧ LV.pureL ys = true ∧ ∀ j u, (flat us)[j]? = some u → c.w.cell? (ad.add j) = some u := by
  rcases hy with rfl | ⟨rfl, rfl⟩
  · simp only [RepV] at hv
    obtain ⟨a, cap, rfl, hcap, hn, hp, hr⟩ := hv
    rcases hr with rfl | ⟨b, off, vs, rfl, hb, hX, hl, hc, hra⟩
    · cases a with
      | none => left; have := hn rfl; subst this; exact ⟨rfl, rfl⟩
      | some ad => right; exact ⟨ad, cap, [], rfl, by simp [RepL], by simp, by simp [LV.pureL], by simp [flat]⟩
    · right
      exact ⟨_, cap, vs, rfl, hl, hc, hp, fun j u hu => by rw [Addr.add_mid]; exact hra j u hu⟩
  · simp only [RepV] at hv
    exact .inl ⟨rfl, hv⟩

theorem run_append_blk {w : World} {t ty e : TypeId} {i : TypeInfo} {z : Value} (ht : P.underlying t = some (.slice e)) (hi : P.info? e = some i) (hz : i.zero = some z) (hzs : z.cells.size = i.size) (hsz : 0 < i.size) (hby : i.bytes ≤ 128)
    {v : Value} {n : Nat} {xs : List Value} (hown : w.ownsRow 0 e i.size v n xs) {a : Addr} {q cap : Nat} {news : List Value} (hl : news.length = q * i.size) (hnews : ∀ j u, news[j]? = some u → w.cell? (a.add j) = some u) (h1 : ∀ u ∈ news, u.oneCell' = true)
    (hb : n + q ≤ 1099511627776) :
    ∃ v' w', (Builtin.append_ #[t, t] ty #[v, .slice (some a) q cap]).run P w = .ok v' w' ∧ w'.ownsRow 0 e i.size v' (n + q) (xs ++ news) ∧ w.grownBy w' v.ownBlock ∧ (∀ b, v'.ownBlock = some b → v.ownBlock = some b ∨ w.heap.size ≤ b) ∧ (q = 0 → v' = v) ∧ w.drawn ≤ w'.drawn := by
  have hmul : (n + q) * i.bytes ≤ 140737488355328 := by
    have := Nat.mul_le_mul hb hby
    omega
  have h63 : n + q ≤ maxLen := by simp only [maxLen]; omega
  obtain ⟨v', w', hr, h2, h3, h4⟩ := run_append_own (P := P) w 0 t ty e i z i.size i.bytes ht hi hz rfl rfl hzs hsz v n xs hown a q cap news hl hnews h1 h63 hmul (Nat.zero_le _)
  refine ⟨v', w', hr, h2, h3, ?_⟩
  rcases hown.2 with ⟨rfl, rfl⟩ | ⟨g, cap', cur, rfl, hbg, hg, hnc, hcm, hcs, htake⟩
  · by_cases hq : q = 0
    · have hv' : v' = .slice .none 0 0 := h4.2 ⟨rfl, hq⟩
      subst hv'
      subst hq
      have hn : news = [] := List.eq_nil_of_length_eq_zero (by simpa using hl)
      have hr3 : (Builtin.append_ #[t, t] ty #[.slice .none 0 0, .slice (some a) 0 cap]).run P w = .ok (.slice .none 0 0) w := by
        simp [Builtin.append_, run_underlying ht, sizeOf, typeInfo, hi, Builtin.lenOf, Builtin.firstCells, loadCells, loadCellsFrom]
      rw [hr] at hr3
      cases hr3
      exact ⟨fun b hb => by simp [Value.ownBlock] at hb, fun _ => rfl, Nat.le_refl _⟩
    · have hr2 := run_append_nil (P := P) w t ty e i z ht hi hz a q cap news hl hnews (by omega) (by omega) (by have hb' := hmul; simp only [Nat.zero_add] at hb'; omega)
      rw [hr] at hr2
      cases hr2
      exact ⟨fun b hb => by simp [Value.ownBlock] at hb; exact .inr (by omega), fun h => absurd h hq, by simp⟩
  · by_cases hroom : n + q ≤ cap'
    · have hfit : n * i.size + news.length ≤ cur.size := by rw [hl, hcs, ← Nat.add_mul]; exact Nat.mul_le_mul_right _ hroom
      have hr2 := run_append_room (P := P) w t ty e i ht hi g n cap' cur hg a q cap news hl hnews h1 hroom hfit
      rw [hr] at hr2
      cases hr2
      exact ⟨fun b hb => .inl (by simpa [Value.ownBlock] using hb), (fun h => by subst h; rfl), Nat.le_refl _⟩
    · have holds : ∀ j u, xs[j]? = some u → w.cell? ((⟨g, 0, .none⟩ : Addr).add j) = some u := hown.cells (g := g) rfl
      have hr2 := run_append_grow (P := P) w t ty e i z ht hi hz ⟨g, 0, .none⟩ n cap' xs hown.1 holds a q cap news hl hnews (by omega) (by simp only [maxLen] at h63; omega) (growslice_fits (by omega) hmul)
      rw [hr] at hr2
      cases hr2
      exact ⟨fun b hb => by simp [Value.ownBlock] at hb; exact .inr (by omega), (fun h => by omega), by simp⟩

theorem sound_append {c0 : Call} (ho : o.op = .call c0) (hc : c0.callee = .builtin .append) (h : LOp P pr [] o ev m K) : ∃ lv m', K lv m' ∧ OpOk P pr o ev m lv m' := by
  obtain ⟨cl, args, tys⟩ := c0
  simp only at hc
  subst hc
  simp only [LOp, ho] at h
  split at h
  · rename_i x y t t' hargs htys
    obtain rfl : args = #[x, y] := by apply Array.ext'; simpa using hargs
    obtain rfl : tys = #[t, t'] := by apply Array.ext'; simpa using htys
    obtain ⟨rfl, h⟩ := h
    cases hte : telem P t <;> simp only [hte] at h
    case some e =>
      have hu := elem_of hte
      obtain ⟨hrow, ys, hy, h⟩ := h
      obtain ⟨i, z, hi, hz, hzs, hz1, hsz, hby, hts⟩ := row_of hrow
      have hexec : ∀ (a : Act) (w : World), (execOp a.eval o).run P w = ((Builtin.append_ #[t, t] o.type #[a.eval x, a.eval y]).run P w).andThen fun v w' => .ok (.value v) w' := by
        intro a w
        simp [execOp, ho, resolve, invoke, builtin]
      have main : ∀ (c : Cx) (a : Act), (∀ x, RepV c (ev x) (a.eval x)) → RepM c m → ∀ (u : Value) (n : Nat) (xs : List LV) (vs : List Value), a.eval x = u → c.w.ownsRow 0 e i.size u n (flat vs) → n = xs.length → RepL c xs vs → (∀ v ∈ vs, v.cells.size = i.size ∧ ∀ y ∈ v.cells, y.oneCell' = true) → LV.pureL xs = true → n + ys.length ≤ 1099511627776 →
          ∃ v' w', (execOp a.eval o).run P c.w = .ok (.value v') w' ∧ (∃ us, w'.ownsRow 0 e i.size v' (n + ys.length) (flat (vs ++ us)) ∧ RepL c (xs ++ ys) (vs ++ us) ∧ (∀ v ∈ vs ++ us, v.cells.size = i.size ∧ ∀ y ∈ v.cells, y.oneCell' = true) ∧ LV.pureL (xs ++ ys) = true) ∧
            c.w.grownBy w' u.ownBlock ∧ (∀ b, v'.ownBlock = some b → u.ownBlock = some b ∨ c.w.heap.size ≤ b) ∧ (ys.length = 0 → v' = u) ∧ c.w.drawn ≤ w'.drawn := by
        intro c a hev hm u n xs vs hx hown hn hl hc hp hb
        rcases src_of (k := tsize P e) hy (hev y) with ⟨rfl, hv⟩ | ⟨ad, cap, us, hv, hlu, hcu, hpu, hra⟩
        · refine ⟨u, c.w, ?_, ⟨[], by simpa using hown, by simpa using hl, by simpa using hc, by simpa using hp⟩, ⟨rfl, rfl, rfl, Nat.le_refl _, fun _ _ _ => rfl⟩, fun b hb => .inl hb, fun _ => rfl, Nat.le_refl _⟩
          rw [hexec, hx, hv, run_append_owned_none (P := P) (w := c.w) 0 t o.type e i i.size hu hi u n _ hown]
          rfl
        · have hlu' := hlu.length
          rw [hts] at hcu
          have hfl : (flat us).length = ys.length * i.size := by rw [flat_length (k := i.size) (fun v hv => (hcu v hv).1), hlu']
          obtain ⟨v', w', hr, h2, h3, h4, h5, h6⟩ := run_append_blk (P := P) (ty := o.type) hu hi hz hzs hsz hby hown (cap := cap) hfl hra (fun q hq => by
            simp only [flat, List.mem_flatMap] at hq
            obtain ⟨v, hv, hq⟩ := hq
            exact (hcu v hv).2 q (by simpa using hq)) hb
          refine ⟨v', w', ?_, ⟨us, by rw [flat_append]; exact h2, hl.append hlu, fun v hv => (List.mem_append.1 hv).elim (hc v) (hcu v), pureL_append hp hpu⟩, h3, h4, h5, h6⟩
          rw [hexec, hx, hv, hr]
          rfl
      cases hx : ev x <;> simp only [hx] at h
      case arr id n =>
        obtain ⟨hnp, h⟩ := h
        cases hid : m id with
        | none => simp [hid] at h
        | some le =>
          cases le with
          | map _ _ _ => simp [hid] at h
          | nest _ _ _ _ => simp [hid] at h
          | dead => simp [hid] at h
          | box cs => simp [hid] at h
          | arr e' k xs =>
            simp only [hid] at h
            obtain ⟨rfl, hk, hn, hb, hK⟩ := h
            refine ⟨_, _, hK, OpOk.value fun c a hev hm => ?_⟩
            have hv := hev x
            rw [hx] at hv
            obtain ⟨vs, hB, hk0, hown, hl, hc, hp⟩ := arr_now hm hv hid hn
            have hki : k = i.size := by rw [hk, hts]
            subst hki
            obtain ⟨v', w', hr, ⟨us, q1, q2, q3, q4⟩, q5, q6, q7, q8⟩ := main c a hev hm _ _ xs vs rfl hown rfl hl hc hp hb
            obtain ⟨c', hw, hb', h2, h3⟩ := hm.upd (pr := pr) id (.arr e' i.size (xs ++ ys)) (.arr v' i.size (xs.length + ys.length) []) w' q5.os q5.tape q5.output q8 q5.size
              (fun b hb' hne => q5.block b hb' (fun hh => hne _ hB (.inl hh.symm)))
              (fun b hb' => hb'.elim (fun hb' => (q6 b hb').imp (fun hh => ⟨_, hB, .inl hh⟩) (fun hh => hh)) (fun hh => by cases hh))
              (by rw [hB]; exact ⟨_, _, _, rfl, by omega, fun hh => q7 (by omega)⟩) (fun hpr => absurd hpr hnp)
              (fun c' hw hle hble => by
                simp only [RepE, List.length_append]
                exact ⟨v', vs ++ us, rfl, hk0, by rw [hw]; exact q1, RepL.mono hle _ _ (fun id _ => hble id) q2, q3, q4⟩)
            refine ⟨v', c', by rw [hw]; exact hr, ?_, h2, h3⟩
            simp only [RepV]
            refine ⟨?_, v', _, _, _, hb', by omega, fun _ => rfl⟩
            obtain ⟨ad, cp, he⟩ := ownsRow_len q1
            rw [he]; rfl
      case nil =>
        cases hd : o.dst <;> simp only [hd] at h
        case some d =>
          obtain ⟨hid, hb, hK⟩ := h
          refine ⟨_, _, hK, OpOk.value fun c a hev hm => ?_⟩
          have hv := hev x
          rw [hx] at hv
          simp only [RepV] at hv
          have hB := hm.fresh hid
          obtain ⟨v', w', hr, ⟨us, q1, q2, q3, q4⟩, q5, q6, q7, q8⟩ := main c a hev hm _ 0 [] [] hv (World.ownsRow_nil c.w 0 e i.size) rfl (by simp [RepL]) (by simp) (by simp [LV.pureL]) (by omega)
          simp only [Nat.zero_add, List.nil_append] at q1 q2 q3 q4
          obtain ⟨c', hw, hb', h2, h3⟩ := hm.upd (pr := pr) (100 + d) (.arr e (tsize P e) ys) (.arr v' (tsize P e) ys.length []) w' q5.os q5.tape q5.output q8 q5.size
            (fun b hb' _ => q5.block b hb' (fun hh => by simp [Value.ownBlock] at hh))
            (fun b hb' => hb'.elim (fun hb' => (q6 b hb').elim (fun hh => by simp [Value.ownBlock] at hh) .inr) (fun hh => by cases hh))
            (by rw [hB]; trivial) (fun _ be0 h0 => by rw [hB] at h0; cases h0)
            (fun c' hw hle hble => by
              simp only [RepE, hts]
              exact ⟨v', us, rfl, hsz, by rw [hw]; exact q1, RepL.mono hle _ _ (fun id _ => hble id) q2, q3, q4⟩)
          refine ⟨v', c', by rw [hw]; exact hr, ?_, h2, h3⟩
          simp only [RepV]
          refine ⟨?_, v', _, _, _, hb', by omega, fun _ => rfl⟩
          obtain ⟨ad, cp, he⟩ := ownsRow_len q1
          rw [he]; rfl
  · cases h

theorem flat_get {k : Nat} (hk : 0 < k) : ∀ {vs : List Value}, (∀ v ∈ vs, v.cells.size = k) → ∀ j, (flat vs)[j]? = (vs[j / k]?).bind fun v => v.cells[j % k]?
  | [], _, j => by simp [flat]
  | v :: vs, h, j => by
    have hv : v.cells.toList.length = k := by simpa using h v (by simp)
    rw [flat_cons]
    by_cases hj : j < k
    · rw [List.getElem?_append_left (by omega), Nat.div_eq_of_lt hj, Nat.mod_eq_of_lt hj]
      simp
    · rw [List.getElem?_append_right (by omega), flat_get hk (fun u hu => h u (by simp [hu])), hv]
      have e1 : j / k = (j - k) / k + 1 := by
        rw [show j = (j - k) + k by omega, Nat.add_div_right _ hk]; simp
      have e2 : j % k = (j - k) % k := by
        conv => lhs; rw [show j = (j - k) + k by omega, Nat.add_mod_right]
      rw [e1, e2, List.getElem?_cons_succ]

theorem sound_makeSlice {t : TypeId} {x y : Operand} (ho : o.op = .makeSlice t x y) (h : LOp P pr [] o ev m K) : ∃ lv m', K lv m' ∧ OpOk P pr o ev m lv m' := by
  simp only [LOp, ho] at h
  split at h
  · rename_i e z n n' d hte hz hx hy hd
    obtain ⟨rfl, h0, hb, hrow, hp, hid, hK⟩ := h
    have hu := elem_of hte
    obtain ⟨i, zv, hi, hzv, hzs, hz1, hsz, hby, hts⟩ := row_of hrow
    refine ⟨_, _, hK, OpOk.value fun c a hev hm => ?_⟩
    have hvx := hev x
    have hvy := hev y
    rw [hx] at hvx
    rw [hy] at hvy
    simp only [RepV] at hvx hvy
    have hzz : z = ofV zv := by
      rw [hte] at hz
      simp only [Option.getD_some, tzero, hi, hzv] at hz
      split at hz
      · cases hz; rfl
      · cases hz
    subst hzz
    have hbytes : (i.bytes : Int) * n ≤ 281474976710656 := by
      have h1 : (i.bytes : Int) * n ≤ 128 * n := Int.mul_le_mul_of_nonneg_right (by omega) h0
      omega
    have hrun := run_make (P := P) c.w t e i zv hu hi hzv .i64 .i64 n n h0 (Int.le_refl _) hbytes (by omega)
    have hB := hm.fresh hid
    have hcells : (madeCells zv.cells (n.toNat * i.size)).toList = flat (List.replicate n.toNat zv) := by
      apply List.ext_getElem?
      intro j
      rw [flat_get hsz (fun v hv => by rw [List.eq_of_mem_replicate hv]; exact hzs)]
      simp only [Array.getElem?_toList, madeCells, Array.getElem?_map, Array.getElem?_range, List.getElem?_replicate, hzs]
      by_cases hj : j < n.toNat * i.size
      · have h1 : j / i.size < n.toNat := (Nat.div_lt_iff_lt_mul hsz).2 hj
        have h2 : j % i.size < zv.cells.size := by rw [hzs]; exact Nat.mod_lt _ hsz
        rw [if_pos hj, if_pos h1]
        simp [h2]
      · have h1 : ¬ j / i.size < n.toNat := fun hh => hj ((Nat.div_lt_iff_lt_mul hsz).1 hh)
        rw [if_neg hj, if_neg h1]
        rfl
    have hsize : (madeCells zv.cells (n.toNat * i.size)).size = n.toNat * i.size := size_madeCells _ _
    obtain ⟨c', hw, hb', h2, h3⟩ := hm.upd (pr := pr) (100 + d) (.arr e (tsize P e) (List.replicate n.toNat (ofV zv))) (.arr (.slice (some ⟨c.w.heap.size, 0, .none⟩) n.toNat n.toNat) (tsize P e) n.toNat [])
      (c.w.alloc (.cells (madeCells zv.cells (n.toNat * i.size)) e)) rfl rfl rfl (Nat.le_refl _) (by simp)
      (fun b hb' _ => heap_alloc_old c.w _ b hb') (fun b hb' => by simp [BE.has, Value.ownBlock] at hb'; exact .inr (by omega)) (by rw [hB]; trivial) (fun _ be0 h0 => by rw [hB] at h0; cases h0)
      (fun c' hw hle hble => by
        simp only [RepE, hts, List.length_replicate]
        refine ⟨_, List.replicate n.toNat zv, rfl, hsz, ⟨by rw [flat_length (k := i.size) (fun v hv => by rw [List.eq_of_mem_replicate hv]; exact hzs)]; simp, .inr ⟨c.w.heap.size, n.toNat, _, rfl, Nat.zero_le _, by rw [hw]; exact heap_alloc_new c.w _, Nat.le_refl _, by simp only [maxLen]; omega, hsize, ?_⟩⟩, ?_, ?_, ?_⟩
        · rw [List.take_of_length_le (by rw [Array.length_toList, hsize]; exact Nat.le_refl _), hcells]
        · refine RepL.of (by simp) fun j q r hq hr => ?_
          rw [List.getElem?_replicate] at hq hr
          split at hq
          · rename_i hj
            rw [if_pos hj] at hr
            cases hq; cases hr; exact repV_ofV c' zv
          · cases hq
        · intro v hv
          rw [List.eq_of_mem_replicate hv]
          exact ⟨hzs, hz1⟩
        · refine pureL_iff.2 fun q hq => ?_
          rw [List.eq_of_mem_replicate hq]; exact hp)
    refine ⟨.slice (some ⟨c.w.heap.size, 0, .none⟩) n.toNat n.toNat, c', by rw [hw]; simp [execOp, ho, hvx, hvy, hrun], ?_, h2, h3⟩
    simp only [RepV]
    exact ⟨rfl, _, _, _, _, hb', Nat.le_refl _, fun _ => rfl⟩
  · cases h

theorem fold_set {cells : Array Value} {off : Nat} {l : Array Value} (h : off + l.size ≤ cells.size) :
    (l.zipIdx.foldl (fun cs (x : Value × Nat) => cs.setIfInBounds (off + x.2) x.1) cells).toList = cells.toList.take off ++ l.toList ++ cells.toList.drop (off + l.toList.length) := by
  obtain ⟨g1, g2⟩ := Great.foldl_set off l.toList 0 cells
  have e0 : l.zipIdx.foldl (fun cs (x : Value × Nat) => cs.setIfInBounds (off + x.2) x.1) cells = (l.toList.zipIdx 0).foldl (fun cs (x : Value × Nat) => cs.setIfInBounds (off + x.2) x.1) cells := by
    rw [← Array.foldl_toList]; simp
  rw [e0]
  apply List.ext_getElem?
  intro j
  rw [Array.getElem?_toList, g2 j]
  have e1 : l.toList.length = l.size := by simp
  have e2 : cells.toList.length = cells.size := by simp
  simp only [Nat.add_zero, List.getElem?_append, List.length_append, List.length_take, List.getElem?_take, List.getElem?_drop, e1, e2]
  by_cases h1 : j < off
  · rw [if_neg (by omega), if_pos (by omega), if_pos (by omega), if_pos h1]; simp
  · by_cases h2 : j < off + l.size
    · rw [if_pos (by omega), if_pos (by omega), if_neg (by omega)]
      congr 1; omega
    · rw [if_neg (by omega), if_neg (by omega)]
      rw [← Array.getElem?_toList]; congr 1; omega

theorem fill_sound {t : TypeId} {fields : Array Field} {places : List (Nat × Nat)} (hu : P.underlying t = some (.struct fields)) (hpl : fields.toList.mapM (fun f => (P.info? f.type).map fun i => (f.offset, i.size)) = some places) {c : Cx} {a : Act} (hev : ∀ x, RepV c (ev x) (a.eval x)) :
    ∀ (parts : List (Nat × Operand)) (cs : List LV) (cells : Array Value) (r : List LV), RepL c cs cells.toList → lfill P t cs (parts.map fun p => (p.1, ev p.2)) = some r →
      ∃ rc, Instr.fill (places.toArray[·]?) cells (parts.map fun p => (p.1, a.eval p.2)) = some rc ∧ RepL c r rc.toList
  | [], cs, cells, r, hl, h => by
    simp only [List.map_nil, lfill, Option.some.injEq] at h
    subst h
    exact ⟨cells, rfl, hl⟩
  | (i, x) :: parts, cs, cells, r, hl, h => by
    simp only [List.map_cons, lfill] at h
    cases htf : tfield P t i with
    | none => simp [htf] at h
    | some q =>
      obtain ⟨off, ft⟩ := q
      simp only [htf] at h
      split at h
      · rename_i hc
        obtain ⟨h1, h2, h3, h4⟩ := hc
        obtain ⟨hxl, hx1⟩ := (hev x).cellsOf h4
        have hxlen : (ev x).cells.length = (a.eval x).cells.size := by rw [hxl.length]; simp
        have hcl : cs.length = cells.size := by rw [hl.length]; simp
        have hplace : places.toArray[i]? = some (off, tsize P ft) := by
          unfold tfield at htf
          rw [hu] at htf
          simp only at htf
          cases hf : fields[i]? with
          | none => simp [hf] at htf
          | some fd =>
            simp only [hf, Option.map_some, Option.some.injEq, Prod.mk.injEq] at htf
            obtain ⟨rfl, rfl⟩ := htf
            have hgen : ∀ (fs : List Field) (ps : List (Nat × Nat)), fs.mapM (fun f => (P.info? f.type).map fun i => (f.offset, i.size)) = some ps → ∀ (i : Nat) fd, fs[i]? = some fd → ps[i]? = some (fd.offset, tsize P fd.type) := by
              intro fs
              induction fs with
              | nil => intro ps _ i fd hfd; simp at hfd
              | cons f fs ih =>
                intro ps hps i fd hfd
                simp only [List.mapM_cons, Option.bind_eq_bind, Option.pure_def] at hps
                cases hi : P.info? f.type with
                | none => simp [hi] at hps
                | some inf =>
                  cases hr : fs.mapM (fun f => (P.info? f.type).map fun i => (f.offset, i.size)) with
                  | none => simp [hi, hr] at hps
                  | some rest =>
                    simp [hi, hr] at hps
                    subst hps
                    cases i with
                    | zero => simp at hfd; subst hfd; simp [tsize, hi]
                    | succ i => simp at hfd; simpa using ih rest hr i fd hfd
            have := hgen fields.toList places hpl i fd (by simpa using hf)
            simpa using this
        have hfold := fold_set (cells := cells) (off := off) (l := (a.eval x).cells) (by omega)
        obtain ⟨rc, hrc, hrl⟩ := fill_sound hu hpl hev parts (rep cs off (ev x).cells) ((a.eval x).cells.zipIdx.foldl (fun cs (x : Value × Nat) => cs.setIfInBounds (off + x.2) x.1) cells) r (by
          rw [hfold]
          unfold rep
          rw [hxl.length]
          exact ((hl.take off).append hxl).append (hl.drop _)) h
        refine ⟨rc, ?_, hrl⟩
        simp only [List.map_cons]
        unfold Instr.fill
        simp only [hplace]
        rw [if_neg (by simp only [ne_eq, Bool.or_eq_true, decide_eq_true_eq, not_or, Decidable.not_not, Nat.not_lt, gt_iff_lt]; omega)]
        exact hrc
      · cases h

theorem sound_build {t : TypeId} {parts : Array (Nat × Operand)} (ho : o.op = .build t parts) (h : LOp P pr [] o ev m K) : ∃ lv m', K lv m' ∧ OpOk P pr o ev m lv m' := by
  simp only [LOp, ho] at h
  obtain ⟨htb, h⟩ := h
  split at h
  · rename_i z hz
    split at h
    · rename_i cs hf
      refine ⟨_, _, h, OpOk.same fun c a hev hm => ?_⟩
      unfold tbuild at htb
      split at htb
      · rename_i fields hu
        obtain ⟨places, hpl⟩ := Option.isSome_iff_exists.1 htb
        unfold tzero at hz
        split at hz
        · rename_i i hi
          split at hz
          · rename_i zv hzv
            split at hz
            · have hz' : ofV zv = .agg z := by simpa using hz
              have hzl : RepL c z zv.cells.toList := by have := repL_ofV_cells c zv; rw [hz'] at this; exact this
              obtain ⟨rc, hrc, hrl⟩ := fill_sound hu hpl hev parts.toList z zv.cells cs hzl hf
              have hb : P.built t (parts.map fun p => (p.1, a.eval p.2)).toList = some rc := by
                unfold Program.built
                simp only [hi, hu, hzv, hpl, Array.toList_map]
                exact hrc
              have hrun := run_build (P := P) c.w t _ rc hb
              refine ⟨.agg rc, by simp [execOp, ho, hrun], ?_⟩
              simp only [RepV]
              exact ⟨rc.toList, by simp, hrl⟩
            · cases hz
          · cases hz
        · cases hz
      · cases htb
    · cases h
  · cases h

theorem sound_buildSlice {t : TypeId} {len : Nat} {parts : Array (Nat × Operand)} (ho : o.op = .buildSlice t len parts) (h : LOp P pr [] o ev m K) : ∃ lv m', K lv m' ∧ OpOk P pr o ev m lv m' := by
  simp only [LOp, ho] at h
  cases hte : telem P t <;> simp only [hte] at h
  case some e =>
    obtain ⟨hrow, hsm, hidx, hels, hK⟩ := h
    have hu := elem_of hte
    obtain ⟨i, zv, hi, hzv, hzs, hz1, hsz, hby, hts⟩ := row_of hrow
    refine ⟨_, _, hK, OpOk.value fun c a hev hm => ?_⟩
    have hplen : parts.toList.length = len := by have := congrArg List.length hidx; simpa using this
    let vs := parts.toList.map fun p => a.eval p.2
    have hl : RepL c (parts.toList.map fun p => ev p.2) vs := RepL.of (by simp [vs]) fun j x v hx hv => by
      simp only [vs, List.getElem?_map, Option.map_eq_some_iff] at hx hv
      obtain ⟨p, hp, rfl⟩ := hx
      obtain ⟨p', hp', rfl⟩ := hv
      rw [hp] at hp'; cases hp'; exact hev _
    have hcell : ∀ v ∈ vs, v.cells.size = i.size ∧ ∀ y ∈ v.cells, y.oneCell' = true := by
      intro v hv
      simp only [vs, List.mem_map] at hv
      obtain ⟨p, hp, rfl⟩ := hv
      obtain ⟨_, e1, e2⟩ := hels (ev p.2) (List.mem_map.2 ⟨p, hp, rfl⟩)
      obtain ⟨e3, e4⟩ := (hev p.2).cellsOf e2
      refine ⟨?_, e4⟩
      have := e3.length
      rw [e1, hts] at this
      simpa using this.symm
    have hpure : LV.pureL (parts.toList.map fun p => ev p.2) = true := pureL_iff.2 fun x hx => (hels x hx).1
    have hparts : (parts.map fun (p : Nat × Operand) => (p.1, a.eval p.2)).toList = (vs.zipIdx 0).map fun x => (x.2, x.1) := by
      apply List.ext_getElem?
      intro j
      have hj := congrArg (fun l => l[j]?) hidx
      simp only [List.getElem?_map, List.getElem?_range] at hj
      simp only [Array.toList_map, List.getElem?_map, List.getElem?_zipIdx, vs, Nat.zero_add]
      cases hp : parts.toList[j]? with
      | none => simp
      | some p =>
        rw [hp] at hj
        have hjl : j < len := by
          rw [← hplen]; exact (List.getElem?_eq_some_iff.1 hp).1
        rw [List.getElem?_range hjl] at hj
        simp at hj
        simp [hj]
    obtain ⟨cells, hfill, hflat⟩ : ∃ cells, Instr.fill (fun i' => some (i' * i.size, i.size)) ((Array.range (len * i.size)).map (zv.cells[· % zv.cells.size]!)) (parts.map fun (p : Nat × Operand) => (p.1, a.eval p.2)).toList = some cells ∧ cells.toList = flat vs := by
      have hvl : vs.length = len := by simp [vs, hplen]
      obtain ⟨r, hr, hrs, hrk⟩ := Great.fill_dense hsz vs 0 ((Array.range (len * i.size)).map (zv.cells[· % zv.cells.size]!)) (fun v hv => (hcell v hv).1) (by simp [hvl])
      refine ⟨r, by rw [hparts]; exact hr, ?_⟩
      apply List.ext_getElem?
      intro j
      rw [flat_get hsz (fun v hv => (hcell v hv).1), Array.getElem?_toList, hrk j]
      simp only [Nat.zero_mul, Nat.zero_le, true_and, Nat.zero_add, Nat.sub_zero, hvl]
      by_cases hj : j < len * i.size
      · rw [if_pos hj]
      · rw [if_neg hj]
        have h1 : ¬ j / i.size < len := fun hh => hj ((Nat.div_lt_iff_lt_mul hsz).1 hh)
        rw [List.getElem?_eq_none (by omega : vs.length ≤ j / i.size)]
        simp; omega
    have hcells : cells = (flat vs).toArray := by rw [← hflat]
    subst hcells
    have hrun : (execOp a.eval o).run P c.w = .ok (.value (.slice (some ⟨c.w.heap.size, 0, .none⟩) len len)) (c.w.alloc (.cells (flat vs).toArray e)) := by
      by_cases hl0 : len = 0
      · subst hl0
        have hp0 : parts = #[] := by apply Array.ext'; simpa using hplen
        subst hp0
        simp [execOp, ho, Instr.buildSlice, run_underlying hu, sizeOf, typeInfo, hi, Instr.fill, newRow, vs, flat, Array.range_zero']
      · have hpos : ¬ len * i.size = 0 := by
          intro h0
          rcases Nat.mul_eq_zero.1 h0 with h0 | h0 <;> omega
        have hb := run_buildSlice (P := P) c.w t e len (parts.map fun (p : Nat × Operand) => (p.1, a.eval p.2)) (flat vs).toArray i zv hu hi hzv (by rw [hts] at hsm; omega) hpos hfill
        simp [execOp, ho, hb]
    obtain ⟨h2, h3⟩ := hm.ext (pr := pr) (c.w.alloc (.cells (flat vs).toArray e)) rfl rfl rfl (Nat.le_refl _) (by simp) (fun b hb => heap_alloc_old c.w _ b hb)
    refine ⟨_, _, hrun, ?_, h2, h3⟩
    simp only [RepV]
    refine ⟨some ⟨c.w.heap.size, 0, .none⟩, len, by simp [hplen], by simp [hplen], by simp, hpure, .inr ⟨c.w.heap.size, 0, vs, rfl, by simp, hm.newX (Nat.le_refl _), h3.repL hl, fun u hu => by rw [hts]; exact hcell u hu, rangeAt_new c.w _ e⟩⟩

/-- THE LAW: an operation does what 'LOp' says. -/
theorem LOp_sound {ro : List Nat} (h : LOp P pr ro o ev m K) : ∃ lv m', K lv m' ∧ OpOk P pr o ev m lv m' := by
  have hro : ∀ (ho : ∀ t x, o.op ≠ .box t x), LOp P pr [] o ev m K := by
    intro hno
    unfold LOp at h ⊢
    split at h <;> first | exact h | (rename_i t x ho; exact absurd ho (hno t x))
  cases ho : o.op
  case move x => simp only [LOp, ho] at h; exact ⟨_, _, h, ok_move x (.inl ho)⟩
  case assign x => simp only [LOp, ho] at h; exact ⟨_, _, h, ok_move x (.inr ho)⟩
  case pick x y z =>
    simp only [LOp, ho] at h
    cases hx : ev x <;> simp only [hx] at h
    case bool t => exact ⟨_, _, h, ok_pick x y z t ho hx⟩
  case alloc t =>
    simp only [LOp, ho] at h
    split at h
    · rename_i z d hz hd
      exact ⟨_, _, h.2, ok_alloc t d z ho hz h.1⟩
    · cases h
  case box t x =>
    simp only [LOp, ho] at h
    split at h
    · rename_i d hd
      obtain ⟨hs, h⟩ := h
      split at h
      · exact ⟨_, _, h, ok_box_ro t x ho hs⟩
      · exact ⟨_, _, h.2, ok_box t x d ho hs h.1⟩
    · cases h
  case build t parts => exact sound_build ho (hro (by simp [ho]))
  case buildSlice t n parts => exact sound_buildSlice ho (hro (by simp [ho]))
  case load t x => exact sound_load ho (hro (by simp [ho]))
  case store t x y => exact sound_store ho (hro (by simp [ho]))
  case nilCheck x => exact sound_nilCheck ho (hro (by simp [ho]))
  case binOp op t x y t' => exact sound_binOp ho (hro (by simp [ho]))
  case unOp op t x => exact sound_unOp ho (hro (by simp [ho]))
  case convert s t x => exact sound_convert ho (hro (by simp [ho]))
  case slice t x lo hi mx => exact sound_slice ho (hro (by simp [ho]))
  case fieldAddr t x f => exact sound_fieldAddr ho (hro (by simp [ho]))
  case field t x f => exact sound_field ho (hro (by simp [ho]))
  case indexAddr t x i => exact sound_indexAddr ho (hro (by simp [ho]))
  case extract t i => exact sound_extract ho (hro (by simp [ho]))
  case makeFunc f a b => exact sound_makeFunc ho (hro (by simp [ho]))
  case makeSlice t x y => exact sound_makeSlice ho (hro (by simp [ho]))
  case call c =>
    cases hc : c.callee
    case value x => exact sound_call ho hc (hro (by simp [ho]))
    case builtin b =>
      cases b
      case len => exact sound_len ho hc (hro (by simp [ho]))
      case append => exact sound_append ho hc (hro (by simp [ho]))
      all_goals simp [LOp, ho, hc] at h
    all_goals simp [LOp, ho, hc] at h
  all_goals simp [LOp, ho] at h
end ops
end Go.L
