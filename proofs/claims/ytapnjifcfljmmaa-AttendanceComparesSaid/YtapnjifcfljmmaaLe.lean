/- A logic over logical memory, part 5: each operation does what part 3 says, continued. -/
import Derived.Test.YtapnjifcfljmmaaLd
set_option linter.unusedVariables false
set_option linter.unusedSimpArgs false
namespace Go.L
section ops
variable {P : Program} {pr : Nat → Prop} {o : Oper} {ev : Operand → LV} {m m' : Mem} {lv : LV}

theorem cell_box {c : Cx} {m : Mem} (hm : RepM c m) {id : Nat} {cs : List LV} (h : m id = some (.box cs)) : ∃ b vs e, c.B id = some (.box b cs.length) ∧ c.w.heap[b]? = some (.cells vs.toArray e (0, 0)) ∧ RepL c cs vs ∧ ∀ v ∈ vs, v.oneCell' = true := by
  have := hm.ent id
  rw [h] at this
  simp only [RepE] at this
  exact this
theorem cell_arr {c : Cx} {m : Mem} (hm : RepM c m) {id : Nat} {e k : Nat} {xs : List LV} (h : m id = some (.arr e k xs)) : ∃ u vs, c.B id = some (.arr u k xs.length []) ∧ 0 < k ∧ c.w.ownsRow 0 e k u xs.length (flat vs) ∧ RepL c xs vs ∧ (∀ v ∈ vs, v.cells.size = k ∧ ∀ y ∈ v.cells, y.oneCell' = true) ∧ LV.pureL xs = true := by
  have := hm.ent id
  rw [h] at this
  simp only [RepE] at this
  exact this

/-- an address in an owned row, and its element's cells -/
theorem eptr_at {c : Cx} {m : Mem} (hm : RepM c m) {id n i off e k : Nat} {xs : List LV} {v : Value} (hv : RepV c (.eptr id n i off) v) (hid : m id = some (.arr e k xs)) (hn : n = xs.length) {x : LV} (hx : xs[i]? = some x) (hs : x.cells.all LV.scalar = true) (ho : off ≤ x.cells.length) :
    ∃ b vs, v = .pointer (some ⟨b, i * k + off, .none⟩) ∧ RepL c (x.cells.drop off) vs ∧ c.w.rangeAt b (i * k + off) vs := by
  obtain ⟨u, vs, hB, hk, hown, hl, hc, hp⟩ := cell_arr hm hid
  simp only [RepV] at hv
  obtain ⟨_, u', k', len, ins', hB', hle, hv⟩ := hv
  rw [hB] at hB'
  cases hB'
  obtain ⟨b, hb, rfl⟩ := hv hn
  obtain ⟨y, hy, hry⟩ := hl.get hx
  obtain ⟨h1, h2⟩ := flat_split (k := k) (fun v hv => (hc v hv).1) hy
  have hra := rangeAt_own hown hb
  rw [h1] at hra
  have := rangeAt_part hra
  rw [h2] at this
  simp only [Nat.zero_add] at this
  exact ⟨b, _, rfl, (hry.cellsOf hs).1.drop off, rangeAt_drop this off⟩

theorem sound_load {t : TypeId} {x : Operand} {K : LV → Mem → Prop} (ho : o.op = .load t x) (h : LOp P pr [] o ev m K) : ∃ lv m', K lv m' ∧ OpOk P pr o ev m lv m' := by
  simp only [LOp, ho] at h
  cases hx : ev x <;> simp only [hx] at h
  case sptr cs =>
    obtain ⟨lv, hK, hr⟩ := loadC_sound h
    refine ⟨lv, m, hK, ok_load_of ho fun c a hev hm => ?_⟩
    have hv := hev x
    rw [hx] at hv
    simp only [RepV] at hv
    obtain ⟨b, off, vs, he, _, _, hl, _, hra⟩ := hv
    exact ⟨b, off, he, hr c b off vs hl hra⟩
  case ptr id off =>
    cases hm : m id with
    | none => simp [hm] at h
    | some le =>
      cases le with
      | map _ _ _ => simp [hm] at h
      | nest _ _ _ _ => simp [hm] at h
      | dead => simp [hm] at h
      | arr e k xs => simp [hm] at h
      | box cs =>
        simp only [hm] at h
        obtain ⟨lv, hK, hr⟩ := loadC_sound h.2
        refine ⟨lv, m, hK, ok_load_of ho fun c a hev hM => ?_⟩
        obtain ⟨b, vs, e, hB, hh, hl, h1⟩ := cell_box hM hm
        have hv := hev x
        rw [hx] at hv
        simp only [RepV] at hv
        obtain ⟨b', n, hB', he⟩ := hv
        rw [hB] at hB'
        cases hB'
        have hra := rangeAt_drop (rangeAt_row hh) off
        simp only [Nat.zero_add] at hra
        exact ⟨b, off, he, hr c b off _ (hl.drop off) hra⟩
  case eptr id n i off =>
    cases hm : m id with
    | none => simp [hm] at h
    | some le =>
      cases le with
      | map _ _ _ => simp [hm] at h
      | nest _ _ _ _ => simp [hm] at h
      | dead => simp [hm] at h
      | box cs => simp [hm] at h
      | arr e k xs =>
        simp only [hm] at h
        obtain ⟨hn, y, hy, hs, hoff, h⟩ := h
        obtain ⟨lv, hK, hr⟩ := loadC_sound h
        refine ⟨lv, m, hK, ok_load_of ho fun c a hev hM => ?_⟩
        have hv := hev x
        rw [hx] at hv
        obtain ⟨b, vs, he, hl, hra⟩ := eptr_at hM hv hm hn hy hs hoff
        exact ⟨b, _, he, hr c b _ vs hl hra⟩

/-- A store into cells of a row. -/
theorem run_store_row {w : World} {t : TypeId} {b off : Nat} {cur : Array Value} {e : TypeId} {v : Value} (ht : tok P t = true) (hs : tsize P t = v.cells.size) (hh : w.heap[b]? = some (.cells cur e (0, 0))) (hl : off + v.cells.size ≤ cur.size) (h1 : ∀ y ∈ v.cells, y.oneCell' = true) :
    (Instr.storeAt t (.pointer (some ⟨b, off, .none⟩)) v).run P w = .ok () (w.setRow b (cur.toList.take off ++ v.cells.toList ++ cur.toList.drop (off + v.cells.toList.length)).toArray) := by
  unfold tok at ht
  cases hi : P.info? t with
  | none => simp [hi] at ht
  | some i =>
    have hsz : v.cells.size = i.size := by rw [← hs]; simp [tsize, hi]
    have hst := run_storeCells_at (P := P) b off e v.cells.toList 0 cur w hh (by simpa using hl) (fun y hy => h1 y (by simpa using hy))
    simp only [Nat.add_zero] at hst
    simp [Instr.storeAt, Instr.sureAddr, storeVar, sizeOf, typeInfo, hi, hsz, hst]

theorem OpOk.skip (h : ∀ (c : Cx) (a : Act), (∀ x, RepV c (ev x) (a.eval x)) → RepM c m → ∃ c', (execOp a.eval o).run P c.w = .ok .skip c'.w ∧ RepM c' m' ∧ Step pr c c') : OpOk P pr o ev m .und m' := by
  intro c a Q hev hm
  obtain ⟨c', hr, h2, h3⟩ := h c a hev hm
  unfold Oper.wp
  rw [hr]
  exact ⟨undef, c', rfl, rfl, by simp [RepV], h2, h3⟩

theorem rep_length {cs ns : List LV} {off : Nat} (h : off + ns.length ≤ cs.length) : (rep cs off ns).length = cs.length := by
  simp [rep]; omega

theorem sound_store {t : TypeId} {x y : Operand} {K : LV → Mem → Prop} (ho : o.op = .store t x y) (h : LOp P pr [] o ev m K) : ∃ lv m', K lv m' ∧ OpOk P pr o ev m lv m' := by
  simp only [LOp, ho] at h
  obtain ⟨hsc, htok, htsz, h⟩ := h
  cases hx : ev x <;> simp only [hx] at h
  case ptr id off =>
    cases hm : m id with
    | none => simp [hm] at h
    | some le =>
      cases le with
      | map _ _ _ => simp [hm] at h
      | nest _ _ _ _ => simp [hm] at h
      | dead => simp [hm] at h
      | arr e k xs => simp [hm] at h
      | box cs =>
        simp only [hm] at h
        obtain ⟨hoff, hK⟩ := h
        refine ⟨_, _, hK, OpOk.skip fun c a hev hM => ?_⟩
        obtain ⟨b, vs, e, hB, hh, hl, h1⟩ := cell_box hM hm
        have hv := hev x
        rw [hx] at hv
        simp only [RepV] at hv
        obtain ⟨b', n, hB', he⟩ := hv
        rw [hB] at hB'
        cases hB'
        obtain ⟨hyl, hy1⟩ := (hev y).cellsOf hsc
        have hlen : (ev y).cells.length = (a.eval y).cells.size := by rw [hyl.length]; simp
        have hcl := hl.length
        have hrun := run_store_row (P := P) (t := t) (v := a.eval y) (off := off) htok (by rw [htsz, hlen]) hh (by simp; omega) hy1
        obtain ⟨c', hw, hb, h2, h3⟩ := hM.upd (pr := pr) id (.box (rep cs off (ev y).cells)) (.box b cs.length)
          (c.w.setRow b (vs.toArray.toList.take off ++ (a.eval y).cells.toList ++ vs.toArray.toList.drop (off + (a.eval y).cells.toList.length)).toArray) rfl rfl rfl (Nat.le_refl _) (by simp)
          (fun b' hb' hne => setRow_other _ _ _ _ (fun e => hne _ hB (by rw [e]; exact rfl)))
          (fun b' hb' => .inl ⟨_, hB, hb'⟩) (by rw [hB]; exact BLe.refl _) (fun _ be0 h0 => by rw [hB] at h0; cases h0; exact .refl _)
          (fun c' hw hle hble => by
            simp only [RepE]
            refine ⟨b, _, e, by rw [rep_length hoff], by rw [hw]; exact setRow_heap c.w b _ _ e _ hh, ?_, ?_⟩
            · refine RepL.mono hle _ _ (fun id _ => hble id) ?_
              unfold rep
              rw [hyl.length]
              simp only [List.toList_toArray]
              exact ((hl.take off).append hyl).append (hl.drop _)
            · intro v hv
              simp only [List.toList_toArray, List.mem_append] at hv
              rcases hv with (hv | hv) | hv
              · exact h1 v (List.mem_of_mem_take hv)
              · exact hy1 v (by simpa using hv)
              · exact h1 v (List.mem_of_mem_drop hv))
        refine ⟨c', ?_, h2, h3⟩
        rw [hw]
        simp [execOp, ho, he, hrun]
  case eptr id n i off =>
    cases hm : m id with
    | none => simp [hm] at h
    | some le =>
      cases le with
      | map _ _ _ => simp [hm] at h
      | nest _ _ _ _ => simp [hm] at h
      | dead => simp [hm] at h
      | box cs => simp [hm] at h
      | arr e k xs =>
        simp only [hm] at h
        obtain ⟨hn, hp, z, z', hz, hset, hK⟩ := h
        refine ⟨_, _, hK, OpOk.skip fun c a hev hM => ?_⟩
        obtain ⟨u, vs, hB, hk, hown, hl, hc, hpx⟩ := cell_arr hM hm
        have hv := hev x
        rw [hx] at hv
        simp only [RepV] at hv
        obtain ⟨_, u', k', len, ins', hB', hle', hv⟩ := hv
        rw [hB] at hB'
        cases hB'
        obtain ⟨b, hb, he⟩ := hv hn
        obtain ⟨y', hy', hry⟩ := hl.get hz
        have hi : i < xs.length := (List.getElem?_eq_some_iff.1 hz).1
        have hyk : y'.cells.size = k := (hc y' (List.mem_of_getElem? hy')).1
        obtain ⟨hyl, hy1⟩ := (hev y).cellsOf hsc
        have hlen : (ev y).cells.length = (a.eval y).cells.size := by rw [hyl.length]; simp
        obtain ⟨v', hv'r, hv'c, hfit0, hz'p⟩ : ∃ v', RepV c z' v' ∧ v'.cells.toList = y'.cells.toList.take off ++ (a.eval y).cells.toList ++ y'.cells.toList.drop (off + (a.eval y).cells.toList.length) ∧ off + (a.eval y).cells.size ≤ y'.cells.size ∧ z'.pure = true := by
          unfold setEl at hset
          split at hset
          · rename_i cs
            split at hset
            · rename_i hcond
              cases hset
              simp only [RepV] at hry ⊢
              obtain ⟨zs, rfl, hzr⟩ := hry
              refine ⟨.agg (zs.take off ++ (a.eval y).cells.toList ++ zs.drop (off + (a.eval y).cells.toList.length)).toArray, ⟨_, rfl, ?_⟩, by simp [Value.cells], ?_, ?_⟩
              · unfold rep
                rw [hyl.length]
                exact ((hzr.take off).append hyl).append (hzr.drop _)
              · have h5 := hzr.length
                have h6 := hcond.1
                show off + (a.eval y).cells.size ≤ zs.toArray.size
                simp only [List.size_toArray]; omega
              · have hpz : LV.pureL cs = true := by have := pureL_iff.1 hpx _ (List.mem_of_getElem? hz); simpa [LV.pure] using this
                simp only [LV.pure, rep]
                exact pureL_append (pureL_append (pureL_take hpz _) hp) (pureL_drop hpz _)
            · cases hset
          · split at hset
            · rename_i hcond
              obtain ⟨rfl, hxs, hys⟩ := hcond
              cases hset
              have h1 := oneCell_of_scalar hxs (hev y)
              have h2 := oneCell_of_scalar hys hry
              refine ⟨a.eval y, hev y, ?_, ?_, ?_⟩
              · rw [vcells_of_oneCell h1, vcells_of_oneCell h2]; simp
              · rw [vcells_of_oneCell h1, vcells_of_oneCell h2]; simp
              · rw [cells_of_scalar hxs] at hp; simpa [LV.pureL] using hp
            · cases hset
        obtain ⟨hlenx, hrow⟩ := hown
        rcases hrow with ⟨rfl, h0⟩ | ⟨g, cap, cur, rfl, hg0, hg, hnc, hcm, hcs, htk⟩
        · omega
        · simp only [Value.ownBlock, Option.some.injEq] at hb
          subst hb
          have hik : i * k + k ≤ xs.length * k := by
            have := Nat.mul_le_mul_right k (show i + 1 ≤ xs.length by omega)
            rw [Nat.add_mul, Nat.one_mul] at this; exact this
          have hck : xs.length * k ≤ cap * k := Nat.mul_le_mul_right k hnc
          have hfit : i * k + off + (a.eval y).cells.size ≤ cur.size := by omega
          have hrun := run_store_row (P := P) (t := t) (v := a.eval y) (off := i * k + off) htok (by rw [htsz, hlen]) hg hfit hy1
          obtain ⟨f1, f2⟩ := flat_split (k := k) (fun v hv => (hc v hv).1) hy'
          have hvl := hl.length
          have hivs : i < vs.length := by omega
          have hnew : flat (vs.set i v') = (flat vs).take (i * k + off) ++ (a.eval y).cells.toList ++ (flat vs).drop (i * k + off + (a.eval y).cells.toList.length) := by
            have e1 : vs.set i v' = vs.take i ++ v' :: vs.drop (i + 1) := by rw [List.set_eq_take_append_cons_drop, if_pos hivs]
            rw [e1, flat_append, flat_cons, hv'c, f1, ← f2]
            have e2 : (a.eval y).cells.toList.length = (a.eval y).cells.size := by simp
            have e3 : y'.cells.toList.length = y'.cells.size := by simp
            rw [List.take_length_add_append, Nat.add_assoc (flat (vs.take i)).length, List.drop_length_add_append, List.take_append_of_le_length (by omega), List.drop_append_of_le_length (by omega)]
            simp
          have hcur : (cur.toList.take (i * k + off) ++ (a.eval y).cells.toList ++ cur.toList.drop (i * k + off + (a.eval y).cells.toList.length)).take (xs.length * k) = flat (vs.set i v') := by
            rw [hnew, ← htk]
            have e2 : (a.eval y).cells.toList.length = (a.eval y).cells.size := by simp
            have e4 : cur.toList.length = cur.size := by simp
            apply List.ext_getElem?
            intro j
            simp only [List.getElem?_take, List.getElem?_append, List.length_append, List.length_take, List.getElem?_drop, e2, e4]
            repeat' split
            all_goals first | rfl | omega | (congr 1; omega) | skip
          obtain ⟨c', hw, hb', h2, h3⟩ := hM.upd (pr := pr) id (.arr e k (xs.set i z')) (.arr (.slice (some ⟨g, 0, .none⟩) xs.length cap) k xs.length [])
            (c.w.setRow g (cur.toList.take (i * k + off) ++ (a.eval y).cells.toList ++ cur.toList.drop (i * k + off + (a.eval y).cells.toList.length)).toArray) rfl rfl rfl (Nat.le_refl _) (by simp)
            (fun b' hb' hne => setRow_other _ _ _ _ (fun e => hne _ hB (.inl (by rw [e]; rfl))))
            (fun b' hb' => .inl ⟨_, hB, hb'⟩) (by rw [hB]; exact BLe.refl _) (fun _ be0 h0 => by rw [hB] at h0; cases h0; exact .refl _)
            (fun c' hw hle hble => by
              simp only [RepE, List.length_set]
              refine ⟨.slice (some ⟨g, 0, .none⟩) xs.length cap, vs.set i v', rfl, hk, ⟨?_, .inr ⟨g, cap, _, rfl, hg0, by rw [hw]; exact setRow_heap c.w g _ _ e _ hg, hnc, hcm, ?_, ?_⟩⟩, ?_, ?_, ?_⟩
              · rw [hnew]
                have e2 : (a.eval y).cells.toList.length = (a.eval y).cells.size := by simp
                simp only [List.length_append, List.length_take, List.length_drop, List.length_set, hlenx, e2]
                omega
              · have e2 : (a.eval y).cells.toList.length = (a.eval y).cells.size := by simp
                simp only [List.size_toArray, List.length_append, List.length_take, List.length_drop, Array.length_toList]
                omega
              · exact hcur
              · refine RepL.mono hle _ _ (fun id _ => hble id) (RepL.of (by simpa using hvl) fun j x' w' hx' hw' => ?_)
                by_cases hj : j = i
                · subst hj
                  simp only [List.getElem?_set_self hi, Option.some.injEq] at hx'
                  simp only [List.getElem?_set_self hivs, Option.some.injEq] at hw'
                  subst hx'; subst hw'; exact hv'r
                · rw [List.getElem?_set_ne (Ne.symm hj)] at hx' hw'
                  obtain ⟨w'', hw'', hr''⟩ := hl.get hx'
                  rw [hw'] at hw''; cases hw''; exact hr''
              · intro v hv
                rcases List.mem_or_eq_of_mem_set hv with hv | hv
                · exact hc v hv
                · subst hv
                  have hsz : v.cells.size = k := by
                    have := congrArg List.length hv'c
                    have e2 : (a.eval y).cells.toList.length = (a.eval y).cells.size := by simp
                    simp only [List.length_append, List.length_take, List.length_drop, Array.length_toList] at this
                    omega
                  refine ⟨hsz, fun y0 hy0 => ?_⟩
                  have hy0' : y0 ∈ v.cells.toList := by simpa using hy0
                  rw [hv'c] at hy0'
                  simp only [List.mem_append] at hy0'
                  rcases hy0' with (hq | hq) | hq
                  · exact (hc y' (List.mem_of_getElem? hy')).2 y0 (by simpa using List.mem_of_mem_take hq)
                  · exact hy1 y0 (by simpa using hq)
                  · exact (hc y' (List.mem_of_getElem? hy')).2 y0 (by simpa using List.mem_of_mem_drop hq)
              · refine pureL_iff.2 fun x' hx' => ?_
                rcases List.mem_or_eq_of_mem_set hx' with hx' | hx'
                · exact pureL_iff.1 hpx x' hx'
                · subst hx'; exact hz'p)
          refine ⟨c', ?_, h2, h3⟩
          rw [hw]
          simp [execOp, ho, he, hrun]

end ops
end Go.L
