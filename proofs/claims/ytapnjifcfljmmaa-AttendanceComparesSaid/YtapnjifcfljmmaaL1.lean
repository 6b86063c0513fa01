/- A logic over logical memory, part 25: the cells of an element of a nested row; a slice is taken out of an element, and put into it. -/
import Derived.Test.YtapnjifcfljmmaaLl
set_option linter.unusedVariables false
set_option linter.unusedSimpArgs false
namespace Go.L
section
variable {P : Program} {N : Nat} {pr : Nat → Prop} {ops : Array Oper} {ev : Operand → LV} {o : Oper} {lv : LV} {m m' : Mem}
/-- The memory of two ids is made, or turned; all else stands. -/
theorem RepM.upd2 {c : Cx} (h : RepM c m) (id id2 : Nat) (hne : id ≠ id2) (le le2 : LE) (be be2 : BE) (w' : World)
    (hos : w'.os = c.w.os) (htape : w'.tape = c.w.tape) (hout : w'.output = c.w.output) (hdr : c.w.drawn ≤ w'.drawn) (hsize : c.w.heap.size ≤ w'.heap.size)
    (hkeep : ∀ b, b < c.w.heap.size → (∀ be0, c.B id = some be0 → ¬ be0.has b) → (∀ be0, c.B id2 = some be0 → ¬ be0.has b) → w'.heap[b]? = c.w.heap[b]?)
    (hblk : ∀ b, be.has b ∨ be2.has b → (∃ be0, c.B id = some be0 ∧ be0.has b) ∨ (∃ be0, c.B id2 = some be0 ∧ be0.has b) ∨ c.w.heap.size ≤ b) (hdis : ∀ b, be.has b → be2.has b → False)
    (hle : BLe (c.B id) (some be)) (hle2 : BLe (c.B id2) (some be2)) (hpr : pr id → ∀ be0, c.B id = some be0 → be0.Same be) (hpr2 : pr id2 → ∀ be0, c.B id2 = some be0 → be0.Same be2)
    (hent : ∀ c' : Cx, c'.w = w' → c.Le c' → (∀ i, BLe (c.B i) (c'.B i)) → RepE c' (some le) (some be)) (hent2 : ∀ c' : Cx, c'.w = w' → c.Le c' → (∀ i, BLe (c.B i) (c'.B i)) → RepE c' (some le2) (some be2)) :
    ∃ c' : Cx, c'.w = w' ∧ c'.B id = some be ∧ c'.B id2 = some be2 ∧ RepM c' ((m.put id le).put id2 le2) ∧ Step pr c c' := by
  let c' : Cx := ⟨w', fun i => if i = id2 then some be2 else if i = id then some be else c.B i, c.O⟩
  have e1 : c'.B id = some be := by simp [c', hne]
  have e2 : c'.B id2 = some be2 := by simp [c']
  have e3 : ∀ i, i ≠ id → i ≠ id2 → c'.B i = c.B i := fun i h1 h2 => by simp [c', h1, h2]
  have key : ∀ i b1 b, c'.B i = some b1 → b1.has b → (∃ j be0, c.B j = some be0 ∧ be0.has b ∧ (j = i ∨ (i = id ∨ i = id2) ∧ (j = id ∨ j = id2))) ∨ c.w.heap.size ≤ b := by
    intro i b1 b g1 g2
    by_cases hi : i = id
    · subst hi; rw [e1] at g1; cases g1
      rcases hblk b (.inl g2) with ⟨be0, q1, q2⟩ | ⟨be0, q1, q2⟩ | q
      · exact .inl ⟨i, be0, q1, q2, .inl rfl⟩
      · exact .inl ⟨id2, be0, q1, q2, .inr ⟨.inl rfl, .inr rfl⟩⟩
      · exact .inr q
    · by_cases hi2 : i = id2
      · subst hi2; rw [e2] at g1; cases g1
        rcases hblk b (.inr g2) with ⟨be0, q1, q2⟩ | ⟨be0, q1, q2⟩ | q
        · exact .inl ⟨id, be0, q1, q2, .inr ⟨.inr rfl, .inl rfl⟩⟩
        · exact .inl ⟨i, be0, q1, q2, .inl rfl⟩
        · exact .inr q
      · rw [e3 i hi hi2] at g1; exact .inl ⟨i, b1, g1, g2, .inl rfl⟩
  have hown : ∀ b, c'.own b → c.own b ∨ c.w.heap.size ≤ b := by
    rintro b ⟨i, be', h1, h2⟩
    rcases key i be' b h1 h2 with ⟨j, be0, q1, q2, _⟩ | q
    · exact .inl ⟨j, be0, q1, q2⟩
    · exact .inr q
  have hgrow : Grow pr c c' := by
    refine ⟨rfl, hos, htape, hout, hdr, hsize, fun b hb ho => hkeep b hb (fun be0 h0 h1 => ho ⟨id, be0, h0, h1⟩) (fun be0 h0 h1 => ho ⟨id2, be0, h0, h1⟩), hown, fun i be' hp hb => ?_⟩
    by_cases hi : i = id
    · subst hi; exact ⟨be, e1, hpr hp be' hb⟩
    · by_cases hi2 : i = id2
      · subst hi2; exact ⟨be2, e2, hpr2 hp be' hb⟩
      · exact ⟨be', by rw [e3 i hi hi2]; exact hb, .refl be'⟩
  have hble : ∀ i, BLe (c.B i) (c'.B i) := by
    intro i
    by_cases hi : i = id
    · subst hi; rw [e1]; exact hle
    · by_cases hi2 : i = id2
      · subst hi2; rw [e2]; exact hle2
      · rw [e3 i hi hi2]; exact BLe.refl _
  refine ⟨c', rfl, e1, e2, ⟨fun i => ?_, ?_, ?_, ?_⟩, hgrow, hble⟩
  · by_cases hi2 : i = id2
    · subst hi2; rw [e2]; simp only [Mem.put, if_true]; exact hent2 c' rfl hgrow.le hble
    · by_cases hi : i = id
      · subst hi; rw [e1]; simp only [Mem.put, hi2, if_false, if_true]; exact hent c' rfl hgrow.le hble
      · rw [e3 i hi hi2]
        simp only [Mem.put, hi, hi2, if_false]
        refine (h.ent i).mono hgrow.le hble fun be' b hb hbb => ?_
        refine hkeep b ((h.ent i).lt hb hbb) (fun be0 h0 h1 => ?_) (fun be0 h0 h1 => ?_)
        · exact hi (h.inj i id be' be0 b hb h0 hbb h1)
        · exact hi2 (h.inj i id2 be' be0 b hb h0 hbb h1)
  · intro i i' b1 b2 b h1 h2 h3 h4
    rcases key i b1 b h1 h3 with ⟨j, be0, q1, q2, q3⟩ | q
    · rcases key i' b2 b h2 h4 with ⟨j', be0', q1', q2', q3'⟩ | q'
      · have hj := h.inj j j' be0 be0' b q1 q1' q2 q2'
        subst hj
        by_cases hi : i = id
        · by_cases hi' : i' = id
          · rw [hi, hi']
          · by_cases hi2 : i' = id2
            · rw [hi, e1] at h1; rw [hi2, e2] at h2; cases h1; cases h2; exact (hdis b h3 h4).elim
            · rcases q3' with q3' | ⟨q, _⟩
              · subst q3'
                rcases q3 with q3 | ⟨_, q3⟩
                · exact q3.symm
                · rcases q3 with q3 | q3
                  · exact absurd q3 hi'
                  · exact absurd q3 hi2
              · rcases q with q | q
                · exact absurd q hi'
                · exact absurd q hi2
        · by_cases hi2 : i = id2
          · by_cases hi' : i' = id
            · rw [hi2, e2] at h1; rw [hi', e1] at h2; cases h1; cases h2; exact (hdis b h4 h3).elim
            · by_cases hi2' : i' = id2
              · rw [hi2, hi2']
              · rcases q3' with q3' | ⟨q, _⟩
                · subst q3'
                  rcases q3 with q3 | ⟨_, q3⟩
                  · exact q3.symm
                  · rcases q3 with q3 | q3
                    · exact absurd q3 hi'
                    · exact absurd q3 hi2'
                · rcases q with q | q
                  · exact absurd q hi'
                  · exact absurd q hi2'
          · rcases q3 with q3 | ⟨q, _⟩
            · subst q3
              rcases q3' with q3' | ⟨_, q3'⟩
              · exact q3'
              · rcases q3' with q3' | q3'
                · exact absurd q3' hi
                · exact absurd q3' hi2
            · rcases q with q | q
              · exact absurd q hi
              · exact absurd q hi2
      · have := (h.ent j).lt q1 q2; omega
    · rcases key i' b2 b h2 h4 with ⟨j', be0', q1', q2', q3'⟩ | q'
      · have := (h.ent j').lt q1' q2'; omega
      · by_cases hi : i = id
        · by_cases hi' : i' = id
          · rw [hi, hi']
          · by_cases hi2 : i' = id2
            · rw [hi, e1] at h1; rw [hi2, e2] at h2; cases h1; cases h2; exact (hdis b h3 h4).elim
            · rw [e3 i' hi' hi2] at h2; have := (h.ent i').lt h2 h4; omega
        · by_cases hi2 : i = id2
          · by_cases hi' : i' = id
            · rw [hi2, e2] at h1; rw [hi', e1] at h2; cases h1; cases h2; exact (hdis b h4 h3).elim
            · by_cases hi2' : i' = id2
              · rw [hi2, hi2']
              · rw [e3 i' hi' hi2'] at h2; have := (h.ent i').lt h2 h4; omega
          · rw [e3 i hi hi2] at h1; have := (h.ent i).lt h1 h3; omega
  · intro b ho hO
    rcases hown b ho with ho | hs
    · exact h.notO b ho hO
    · have := h.Olt b hO; omega
  · intro b hO; exact Nat.lt_of_lt_of_le (h.Olt b hO) hsize
/-- one cell of an element, and the element with another one in its place -/
theorem RepC.at {c : Cx} {os : List (Nat × Nat × Nat)} : ∀ {q : Nat} {xs : List LV} {ws : List Value} {bs : List Nat}, RepC c os q xs ws bs → ∀ {j : Nat} {x : LV}, xs[j]? = some x →
    ∃ w bp b bq, ws[j]? = some w ∧ bs = bp ++ (b ++ bq) ∧ CellN c os (q + j) x w b ∧ ∀ {c' : Cx} {x' : LV} {w' : Value} {b' : List Nat}, c.Le c' → (∀ r ∈ bp ++ bq, c'.w.heap[r]? = c.w.heap[r]?) → CellN c' os (q + j) x' w' b' → RepC c' os q (xs.set j x') (ws.set j w') (bp ++ (b' ++ bq))
  | _, [], _, _, h, j, x, hx => by simp at hx
  | q, y :: ys, ws, bs, h, j, x, hx => by
    simp only [RepC] at h
    obtain ⟨w, ws', b1, b2, rfl, rfl, h1, h2⟩ := h
    cases j with
    | zero =>
      simp at hx; subst hx
      refine ⟨w, [], b1, b2, by simp, by simp, h1, fun {c' x' w' b'} hle hh he => ?_⟩
      simp only [List.set_cons_zero, RepC, List.nil_append]
      exact ⟨w', ws', b', b2, rfl, rfl, he, h2.mono hle (fun r hr => hh r (by simp [hr]))⟩
    | succ j =>
      simp at hx
      obtain ⟨u, bp, b, bq, g1, rfl, g3, g4⟩ := RepC.at h2 hx
      have hq : q + 1 + j = q + (j + 1) := by omega
      rw [hq] at g3
      refine ⟨u, b1 ++ bp, b, bq, by simpa using g1, by simp, g3, fun {c' x' w' b'} hle hh he => ?_⟩
      simp only [List.set_cons_succ, RepC]
      refine ⟨w, ws'.set j w', b1, bp ++ (b' ++ bq), rfl, by simp, h1.mono hle (fun r hr => hh r (by simp [hr])), g4 hle (fun r hr => hh r (by simp at hr ⊢; rcases hr with h | h <;> simp [h])) (by rw [hq]; exact he)⟩
theorem nest_cell {w : World} {g i k o0 e0 : Nat} {cur : Array Value} {ws : List Value} {x : Value} (hg : w.heap[g]? = some (.cells cur e0 (0, 0))) (hcv : (cur.toList.drop (i * k)).take k = ws) (hw : ws[o0]? = some x) : w.cell? ⟨g, i * k + o0, .none⟩ = some x := by
  rw [← hcv, List.getElem?_take] at hw
  split at hw
  · rw [List.getElem?_drop] at hw
    simp [World.cell?, hg]
    simpa using hw
  · cases hw
theorem set_mid_row {cur ws : List Value} {ik k o0 : Nat} {w' : Value} (hcv : (cur.drop ik).take k = ws) (hk : ik + k ≤ cur.length) (ho : o0 < k) : cur.take (ik + o0) ++ [w'] ++ cur.drop (ik + o0 + 1) = cur.take ik ++ ws.set o0 w' ++ cur.drop (ik + k) := by
  have hwl : ws.length = k := by rw [← hcv]; simp; omega
  have e1 : cur.take (ik + o0) ++ [w'] ++ cur.drop (ik + o0 + 1) = cur.set (ik + o0) w' := by
    rw [List.set_eq_take_append_cons_drop, if_pos (by omega)]; simp
  have e2 : cur = cur.take ik ++ (ws ++ cur.drop (ik + k)) := by
    rw [← hcv]
    have : cur.drop (ik + k) = (cur.drop ik).drop k := by rw [List.drop_drop]
    rw [this, List.take_append_drop, List.take_append_drop]
  have hl : (cur.take ik).length = ik := by simp; omega
  rw [e1]
  conv => lhs; rw [e2]
  rw [List.set_append_right _ _ (by omega), hl, show ik + o0 - ik = o0 by omega, List.set_append_left _ _ (by omega)]
  simp
/-- where the address of a cell leads -/
theorem eptr_now {c : Cx} {id n i o0 g cap k len : Nat} {ins : List Nat} {v : Value} (hv : RepV c (.eptr id n i o0) v) (hB : c.B id = some (.arr (.slice (some ⟨g, 0, .none⟩) len cap) k len ins)) (hn : n = len) : v = .pointer (some ⟨g, i * k + o0, .none⟩) := by
  simp only [RepV] at hv
  obtain ⟨_, u', k', len', ins', hB', hle', hv⟩ := hv
  rw [hB] at hB'
  cases hB'
  obtain ⟨b, hb, he⟩ := hv hn
  have : g = b := by simpa [Value.ownBlock] using hb
  rw [this]; exact he
section
variable {d : Option Nat} {d1 : Nat} {x y : Operand} {t ty : TypeId} {pos : String} {af : Array Edge} {gd : Option (Nat × Bool)} {e0 k id n i o0 : Nat} {os : List (Nat × Nat × Nat)} {xs cs : List LV} {z : LV}
theorem ok_ncN (hx : ev x = .eptr id n i o0) (hm : m id = some (.nest e0 k os xs)) (hn : n = xs.length) (hz : xs[i]? = some z) : OpOkR P pr ⟨d, .nilCheck x, ty, pos, af, gd⟩ ev m (.eptr id n i o0) m := by
  refine OpOkR.value fun c a hev hM => ?_
  have hv := hev x (by simp [Op.operands])
  rw [hx] at hv
  obtain ⟨g, cap, cur, v, bs, ins, hB, _⟩ := hM.nestAt (pr := pr) hm hz
  have he := eptr_now hv hB hn
  exact ⟨a.eval x, c, by simp [execOp, he], hv, hM, Step.refl pr c⟩
theorem ok_faN {f off ft kk : Nat} (hf : tfield P t f = some (off, ft)) (hk : tok P ft = true) (hs : tsize P ft = kk + 1) (hx : ev x = .eptr id n i o0) (hm : m id = some (.nest e0 k os xs)) (hn : n = xs.length) (hz : xs[i]? = some z) : OpOkR P pr ⟨d, .fieldAddr t x f, ty, pos, af, gd⟩ ev m (.eptr id n i (o0 + off)) m := by
  obtain ⟨fs, fd, hu, hfd, rfl, rfl⟩ : ∃ fs fd, P.underlying t = some (.struct fs) ∧ fs[f]? = some fd ∧ fd.offset = off ∧ fd.type = ft := by
    unfold tfield at hf
    split at hf
    · rename_i fs hu
      cases hf' : fs[f]? with
      | none => simp [hf'] at hf
      | some fd => simp [hf'] at hf; exact ⟨fs, fd, hu, hf', hf.1, hf.2⟩
    · cases hf
  refine OpOkR.value fun c a hev hM => ?_
  have hv := hev x (by simp [Op.operands])
  rw [hx] at hv
  obtain ⟨g, cap, cur, v, bs, ins, hB, _⟩ := hM.nestAt (pr := pr) hm hz
  have he := eptr_now hv hB hn
  have hi : ∃ i, P.info? fd.type = some i ∧ i.size ≠ 0 := by
    unfold tok at hk
    cases hi : P.info? fd.type with
    | none => simp [hi] at hk
    | some i => exact ⟨i, rfl, by have : tsize P fd.type = i.size := by simp [tsize, hi]
                                  omega⟩
  obtain ⟨ii, hi, hi0⟩ := hi
  refine ⟨.pointer (some ⟨g, i * k + (o0 + fd.offset), .none⟩), c, ?_, ?_, hM, Step.refl pr c⟩
  · simp [execOp, he, Instr.fieldAt, run_underlying hu, hfd, Instr.sureAddr, fieldPlace, sizeOf, typeInfo, hi, hi0, Addr.add_mid, Nat.add_assoc]
  · simp only [RepV]
    exact ⟨rfl, _, k, xs.length, _, hB, by omega, fun _ => ⟨g, rfl, rfl⟩⟩
/-- what a cell holds -/
theorem nest_load {c : Cx} (hM : RepM c m) (hm : m id = some (.nest e0 k os xs)) (hn : n = xs.length) (hz : xs[i]? = some (.agg cs)) (hc : cs[o0]? = some z) {v : Value} (hv : RepV c (.eptr id n i o0) v) (ht : tok P t = true) (ha : tagg P t = false) :
    ∃ w b, CellN c os o0 z w b ∧ (Instr.loadAt t v).run P c.w = .ok w c.w := by
  obtain ⟨g, cap, cur, v0, bs, ins, hB, hg, hcs, hnc, hk, hvk, hv1, hcv, hel, _⟩ := hM.nestAt (pr := fun _ => False) hm hz
  have he := eptr_now hv hB hn
  obtain ⟨cs', ws, h1, rfl, hC⟩ := hel
  cases h1
  obtain ⟨w, bp, b, bq, g1, _, g3, _⟩ := hC.at hc
  have hcv' : (cur.toList.drop (i * k)).take k = ws := by simpa [Value.cells] using hcv
  have hcell := nest_cell hg hcv' g1
  rw [Nat.zero_add] at g3
  refine ⟨w, b, g3, ?_⟩
  rw [he]
  exact (run_load_cells (cs := [.und]) (vs := [w]) (c := c) ht (by simp [RepL, RepV]) (fun j v hj => by
    cases j with
    | zero => simp at hj; subst hj; simpa using hcell
    | succ j => simp at hj)).2 ha w [] rfl
theorem ok_ldN (hx : ev x = .eptr id n i o0) (hm : m id = some (.nest e0 k os xs)) (hn : n = xs.length) (hz : xs[i]? = some (.agg cs)) (hc : cs[o0]? = some z) (hl : os.lookup o0 = .none) (ht : tok P t = true) (ha : tagg P t = false) : OpOkR P pr ⟨d, .load t x, ty, pos, af, gd⟩ ev m z m := by
  refine OpOkR.value fun c a hev hM => ?_
  have hv := hev x (by simp [Op.operands])
  rw [hx] at hv
  obtain ⟨w, b, h1, h2⟩ := nest_load hM hm hn hz hc hv ht ha
  unfold CellN at h1
  rw [hl] at h1
  exact ⟨w, c, by simp [execOp, h2], h1.1, hM, Step.refl pr c⟩
theorem ok_lnN {e' k' : Nat} {ys : List LV} (hx : ev x = .eptr id n i o0) (hm : m id = some (.nest e0 k os xs)) (hn : n = xs.length) (hz : xs[i]? = some (.agg cs)) (hc : cs[o0]? = some (.lst k' ys)) (hl : os.lookup o0 = some (e', k')) (ht : tok P t = true) (ha : tagg P t = false) : OpOkR P pr ⟨d, .load t x, ty, pos, af, gd⟩ ev m (.slen ys.length) m := by
  refine OpOkR.value fun c a hev hM => ?_
  have hv := hev x (by simp [Op.operands])
  rw [hx] at hv
  obtain ⟨w, b, h1, h2⟩ := nest_load hM hm hn hz hc hv ht ha
  unfold CellN at h1
  rw [hl] at h1
  refine ⟨w, c, by simp [execOp, h2], ?_, hM, Step.refl pr c⟩
  rcases h1 with ⟨h, _⟩ | ⟨ys', us, h, _, hown, _⟩
  · cases h
  · cases h
    obtain ⟨ad, cp, he⟩ := ownsRow_len hown
    simp only [RepV]; exact ⟨ad, cp, he⟩
theorem ok_lenS {el nn : Nat} (he : telem P t = some el) (hx : ev x = .slen nn) : OpOkR P pr ⟨d, .call ⟨.builtin .len, #[x], #[t]⟩, ty, pos, af, gd⟩ ev m (.int .i64 nn) m := by
  have hu := elem_of he
  refine OpOkR.value fun c a hev hM => ?_
  have hv := hev x (by simp [Op.operands, Call.operands])
  rw [hx] at hv
  simp only [RepV] at hv
  obtain ⟨ad, cp, hv⟩ := hv
  exact ⟨.int .i64 nn, c, by simp [execOp, resolve, invoke, builtin, Builtin.len_, hv, run_underlying hu, goInt], by simp [RepV], hM, Step.refl pr c⟩
/-- a cell that is no owned slice is stored -/
theorem ok_s1N {z' : LV} (hx : ev x = .eptr id n i o0) (hm : m id = some (.nest e0 k os xs)) (hn : n = xs.length) (hz : xs[i]? = some (.agg cs)) (hc : cs[o0]? = some z) (hl : os.lookup o0 = .none) (hy : ev y = z') (hsc : z'.scalar = true) (hp : z'.pure = true) (ht : tok P t = true) (hs : tsize P t = 1) :
    OpOkR P pr ⟨.none, .store t x y, ty, pos, af, gd⟩ ev m .und (m.put id (.nest e0 k os (xs.set i (.agg (cs.set o0 z'))))) := by
  refine OpOkR.skip rfl fun c a hev hM => ?_
  have hv := hev x (by simp [Op.operands])
  rw [hx] at hv
  have hvy := hev y (by simp [Op.operands])
  rw [hy] at hvy
  obtain ⟨g, cap, cur, v0, bs, ins, hB, hg, hcs, hnc, hk, hvk, hv1, hcv, hel, hnd, hgb, hins, hfin⟩ := hM.nestAt (pr := pr) hm hz
  have he := eptr_now hv hB hn
  obtain ⟨cs', ws, h1, rfl, hC⟩ := hel
  cases h1
  have hwl : ws.length = k := by simpa [Value.cells] using hvk
  have hcv' : (cur.toList.drop (i * k)).take k = ws := by simpa [Value.cells] using hcv
  obtain ⟨w, bp, b, bq, g1, rfl, g3, g4⟩ := hC.at hc
  have hok : o0 < k := by rw [← hwl]; exact (List.getElem?_eq_some_iff.1 g1).1
  have hi : i < xs.length := (List.getElem?_eq_some_iff.1 hz).1
  have hik : i * k + k ≤ cur.size := by
    have h1 := Nat.mul_le_mul_right k (show i + 1 ≤ cap by omega)
    rw [Nat.add_mul, Nat.one_mul] at h1; omega
  have hy1 := oneCell_of_scalar hsc hvy
  have hyc := vcells_of_oneCell hy1
  have hrun := run_store_row (P := P) (t := t) (v := a.eval y) (off := i * k + o0) ht (by rw [hs, hyc]; rfl) hg (by rw [hyc]; simp; omega) (by rw [hyc]; simpa using hy1)
  rw [hyc] at hrun
  have hset := set_mid_row (w' := a.eval y) hcv' (by simpa using hik) hok
  have hrow : (cur.toList.take (i * k + o0) ++ [a.eval y] ++ cur.toList.drop (i * k + o0 + 1)) = cur.toList.take (i * k) ++ (Value.agg (ws.set o0 (a.eval y)).toArray).cells.toList ++ cur.toList.drop (i * k + k) := by rw [hset]; simp [Value.cells]
  have hb0 : b = [] := by unfold CellN at g3; rw [Nat.zero_add, hl] at g3; exact g3.2.2
  subst hb0
  obtain ⟨c', hw, h2, h3⟩ := hfin (c.w.setRow g (cur.toList.take (i * k + o0) ++ [a.eval y] ++ cur.toList.drop (i * k + o0 + 1)).toArray) (.agg (cs.set o0 z')) (.agg (ws.set o0 (a.eval y)).toArray) (bp ++ ([] ++ bq)) rfl rfl rfl (Nat.le_refl _) (by simp)
    (fun b hb hne _ => setRow_other _ _ _ _ hne) (by rw [hrow]; exact setRow_heap c.w g _ _ e0 _ hg) (by simp [Value.cells, hwl]) (fun q hq => by
      simp only [Value.cells] at hq hv1
      have hq' : q ∈ ws.set o0 (a.eval y) := by simpa using hq
      rcases List.mem_or_eq_of_mem_set hq' with h | h
      · exact hv1 q (by simpa using h)
      · rw [h]; exact hy1) (fun b hb => .inl hb) hnd (fun c' hw hle => ⟨_, _, rfl, rfl, g4 hle (fun r hr => by rw [hw]; exact setRow_other _ _ _ _ (fun hrg => hgb (by rw [← hrg]; simp at hr ⊢; exact hr)))
      (by unfold CellN; rw [Nat.zero_add, hl]; exact ⟨RepV.mono hle z' _ (fun q hq => by rw [noref_of_pure z' hp] at hq; cases hq) hvy, hp, rfl⟩)⟩)
  refine ⟨c', ?_, h2, h3⟩
  rw [hw]
  simp [execOp, he, hrun]
end
end
end Go.L
