/- A logic over logical memory, part 26: a slice is taken out of an element of a nested row, and put into one. -/
import Derived.Test.YtapnjifcfljmmaaL1
set_option linter.unusedVariables false
set_option linter.unusedSimpArgs false
namespace Go.L
/-- the row's piece of memory, with another element in its place -/
theorem nest_rep {c : Cx} {e0 k : Nat} {os : List (Nat × Nat × Nat)} {xs : List LV} {y : Option BE} (he : RepE c (some (.nest e0 k os xs)) y) {i : Nat} {x : LV} (hx : xs[i]? = some x) :
    ∃ g cap cur v bp bs bq, y = some (.arr (.slice (some ⟨g, 0, .none⟩) xs.length cap) k xs.length (bp ++ (bs ++ bq))) ∧ c.w.heap[g]? = some (.cells cur e0 (0, 0)) ∧ cur.size = cap * k ∧ xs.length ≤ cap ∧ 0 < k ∧
      v.cells.size = k ∧ (∀ y ∈ v.cells, y.oneCell' = true) ∧ (cur.toList.drop (i * k)).take k = v.cells.toList ∧ ElN c os x v bs ∧ (bp ++ (bs ++ bq)).Nodup ∧ g ∉ bp ++ (bs ++ bq) ∧
      ∀ (c' : Cx) (x' : LV) (v' : Value) (bs' : List Nat), c.Le c' → c'.w.heap[g]? = some (.cells (cur.toList.take (i * k) ++ v'.cells.toList ++ cur.toList.drop (i * k + k)).toArray e0 (0, 0)) → (∀ q ∈ bp ++ bq, c'.w.heap[q]? = c.w.heap[q]?) →
        v'.cells.size = k → (∀ y ∈ v'.cells, y.oneCell' = true) → ElN c' os x' v' bs' → (bp ++ (bs' ++ bq)).Nodup → g ∉ bs' → RepE c' (some (.nest e0 k os (xs.set i x'))) (some (.arr (.slice (some ⟨g, 0, .none⟩) xs.length cap) k xs.length (bp ++ (bs' ++ bq)))) := by
  simp only [RepE] at he
  obtain ⟨u, vs, ins, rfl, hk, hown, hn, hc, hnd, hno⟩ := he
  have hi : i < xs.length := (List.getElem?_eq_some_iff.1 hx).1
  obtain ⟨v, bp, bs, bq, hv, rfl, hel, hset⟩ := hn.at hx
  have hvm := List.mem_of_getElem? hv
  have hvl := hn.length
  rcases hown.2 with ⟨_, h0⟩ | ⟨g, cap, cur, rfl, hg0, hg, hnc, hcm, hcs, htk⟩
  · omega
  · have hgn : g ∉ bp ++ (bs ++ bq) := hno g rfl
    have hck : xs.length * k ≤ cap * k := Nat.mul_le_mul_right k hnc
    have hik : i * k + k ≤ xs.length * k := by
      have := Nat.mul_le_mul_right k (show i + 1 ≤ xs.length by omega)
      rw [Nat.add_mul, Nat.one_mul] at this; exact this
    have hcl : cur.toList.length = cur.size := by simp
    have hcurv : (cur.toList.drop (i * k)).take k = v.cells.toList := by
      obtain ⟨f1, f2⟩ := flat_split (fun v hv => (hc v hv).1) hv
      have hvk : v.cells.toList.length = k := by simpa using (hc v hvm).1
      have : (cur.toList.drop (i * k)).take k = ((flat vs).drop (i * k)).take k := by
        rw [← htk, List.drop_take, List.take_take]
        congr 1
        omega
      rw [this, f1, ← f2, List.drop_left' rfl, ← hvk, List.take_left' rfl]
    refine ⟨g, cap, cur, v, bp, bs, bq, rfl, hg, hcs, hnc, hk, (hc v hvm).1, (hc v hvm).2, hcurv, hel, hnd, hgn, ?_⟩
    intro c' x' v' bs' hle hg' hkeep hv'k hv'1 hel' hnd' hgb
    simp only [RepE, List.length_set]
    refine ⟨.slice (some ⟨g, 0, .none⟩) xs.length cap, vs.set i v', bp ++ (bs' ++ bq), rfl, hk, ⟨?_, .inr ⟨g, cap, _, rfl, hg0, hg', hnc, hcm, ?_, ?_⟩⟩, hset hle hkeep hel', ?_, hnd', ?_⟩
    · rw [flat_length (k := k) (fun y hy => ?_)]
      · simp [hvl]
      · rcases List.mem_or_eq_of_mem_set hy with h | h
        · exact (hc y h).1
        · rw [h]; exact hv'k
    · have : v'.cells.toList.length = k := by simpa using hv'k
      simp only [List.size_toArray, List.length_append, List.length_take, List.length_drop, hcl, this, hcs]
      omega
    · rw [flat_set (fun y hy => (hc y hy).1) (by omega) hv'k, ← htk]
      have e2 : v'.cells.toList.length = k := by simpa using hv'k
      apply List.ext_getElem?
      intro j
      simp only [List.toList_toArray, List.getElem?_take, List.getElem?_append, List.length_append, List.length_take, List.getElem?_drop, e2, hcl]
      repeat' split
      all_goals first | rfl | omega | (congr 1; omega) | skip
    · intro y hy
      rcases List.mem_or_eq_of_mem_set hy with h | h
      · exact hc y h
      · rw [h]; exact ⟨hv'k, hv'1⟩
    · intro b hb
      have hbg : g = b := by simpa [Value.ownBlock] using hb
      subst hbg
      intro hc'
      simp only [List.mem_append] at hc' hgn
      rcases hc' with h | h | h
      · exact hgn (.inl h)
      · exact hgb h
      · exact hgn (.inr (.inr h))
section
variable {P : Program} {N : Nat} {pr : Nat → Prop} {ev : Operand → LV} {m : Mem} {d : Option Nat} {x y : Operand} {t ty : TypeId} {pos : String} {af : Array Edge} {gd : Option (Nat × Bool)} {e0 k id n i o0 id2 e' k' : Nat} {os : List (Nat × Nat × Nat)} {xs cs ys : List LV}
/-- AN INNER SLICE IS TAKEN OUT: its place is a hole till something is stored there. -/
theorem ok_takeN (hx : ev x = .eptr id n i o0) (hm : m id = some (.nest e0 k os xs)) (hn : n = xs.length) (hz : xs[i]? = some (.agg cs)) (hc : cs[o0]? = some (.lst k' ys)) (hl : os.lookup o0 = some (e', k')) (hid : m id2 = .none) (ht : tok P t = true) (ha : tagg P t = false) :
    OpOkR P pr ⟨d, .load t x, ty, pos, af, gd⟩ ev m (.arr id2 ys.length) ((m.put id (.nest e0 k os (xs.set i (.agg (cs.set o0 .und))))).put id2 (.arr e' k' ys)) := by
  have hne : id ≠ id2 := fun h => by rw [h, hid] at hm; cases hm
  refine OpOkR.value fun c a hev hM => ?_
  have hv := hev x (by simp [Op.operands])
  rw [hx] at hv
  have hent := hM.ent id
  rw [hm] at hent
  obtain ⟨g, cap, cur, v, bp, bs, bq, hB, hg, hcs, hnc, hk, hvk, hv1, hcv, hel, hnd, hgn, hfin⟩ := nest_rep hent hz
  have he := eptr_now hv hB hn
  obtain ⟨cs', ws, h1, rfl, hC⟩ := hel
  cases h1
  have hcv' : (cur.toList.drop (i * k)).take k = ws := by simpa [Value.cells] using hcv
  obtain ⟨w, cp, cb, cq, g1, rfl, g3, g4⟩ := hC.at hc
  have hcell := nest_cell hg hcv' g1
  rw [Nat.zero_add] at g3 g4
  unfold CellN at g3
  rw [hl] at g3
  obtain ⟨us, hk', hown, hrl, huc, hpy, rfl⟩ : ∃ us, 0 < k' ∧ c.w.ownsRow 0 e' k' w ys.length (flat us) ∧ RepL c ys us ∧ (∀ u ∈ us, u.cells.size = k' ∧ ∀ y ∈ u.cells, y.oneCell' = true) ∧ LV.pureL ys = true ∧ cb = w.ownBlock.toList := by
    rcases g3 with ⟨h, _⟩ | ⟨ys', us, h, q0, q1, q2, q3, q4, q5⟩
    · cases h
    · cases h; exact ⟨us, q0, q1, q2, q3, q4, q5⟩
  have hrun : (Instr.loadAt t (a.eval x)).run P c.w = .ok w c.w := by
    rw [he]
    exact (run_load_cells (cs := [.und]) (vs := [w]) (c := c) ht (by simp [RepL, RepV]) (fun j v hj => by
      cases j with
      | zero => simp at hj; subst hj; simpa using hcell
      | succ j => simp at hj)).2 ha w [] rfl
  have hB2 := hM.fresh hid
  have hsub : ∀ b, b ∈ bp ++ ((cp ++ ([] ++ cq)) ++ bq) → b ∈ bp ++ ((cp ++ (w.ownBlock.toList ++ cq)) ++ bq) := fun b hb => by
    simp only [List.mem_append, List.nil_append] at hb ⊢
    rcases hb with h | (h | h) | h <;> simp [h]
  have hnd' : (bp ++ ((cp ++ ([] ++ cq)) ++ bq)).Nodup := by
    refine List.Nodup.sublist ?_ hnd
    refine List.Sublist.append (List.Sublist.refl _) (List.Sublist.append (List.Sublist.append (List.Sublist.refl _) ?_) (List.Sublist.refl _))
    exact List.Sublist.append (List.nil_sublist _) (List.Sublist.refl _)
  have hsame : ws.set o0 w = ws := by
    obtain ⟨hlt, hw⟩ := List.getElem?_eq_some_iff.1 g1
    rw [← hw]; exact List.set_getElem_self hlt
  obtain ⟨c', hw, eb1, eb2, h2, h3⟩ := hM.upd2 (pr := pr) id id2 hne (.nest e0 k os (xs.set i (.agg (cs.set o0 .und)))) (.arr e' k' ys) (.arr (.slice (some ⟨g, 0, .none⟩) xs.length cap) k xs.length (bp ++ ((cp ++ ([] ++ cq)) ++ bq))) (.arr w k' ys.length []) c.w rfl rfl rfl (Nat.le_refl _) (Nat.le_refl _)
    (fun b _ _ _ => rfl)
    (fun b hb => by
      rcases hb with hb | hb
      · rcases hb with hb | hb
        · exact .inl ⟨_, hB, .inl hb⟩
        · exact .inl ⟨_, hB, .inr (hsub b hb)⟩
      · rcases hb with hb | hb
        · exact .inl ⟨_, hB, .inr (by simp [hb])⟩
        · cases hb)
    (fun b hb hb2 => by
      have hbw : w.ownBlock = some b := by
        rcases hb2 with h | h
        · exact h
        · cases h
      rcases hb with hb | hb
      · have : g = b := by simpa [Value.ownBlock] using hb
        subst this
        exact hgn (by simp [hbw])
      · have n1 := List.nodup_append.1 hnd
        have n2 := List.nodup_append.1 n1.2.1
        have n3 := List.nodup_append.1 n2.1
        have n4 := List.nodup_append.1 n3.2.1
        have hin : b ∈ w.ownBlock.toList := by simp [hbw]
        simp only [List.mem_append, List.nil_append] at hb
        rcases hb with h | (h | h) | h
        · exact n1.2.2 b h b (by simp [hbw]) rfl
        · exact n3.2.2 b h b (by simp [hbw]) rfl
        · exact n4.2.2 b hin b h rfl
        · exact n2.2.2 b (by simp [hbw]) b h rfl)
    (by rw [hB]; exact ⟨_, _, _, rfl, Nat.le_refl _, fun _ => rfl⟩) (by rw [hB2]; trivial) (fun _ be0 h0 => by rw [hB] at h0; cases h0; exact ⟨_, rfl⟩) (fun _ be0 h0 => by rw [hB2] at h0; cases h0)
    (fun c' hw hle hble => by
      refine hfin c' _ (.agg ws.toArray) _ hle ?_ (fun q _ => by rw [hw]) hvk hv1 ⟨_, ws, rfl, rfl, ?_⟩ hnd' (fun h => hgn (by
        simp only [List.mem_append, List.nil_append] at h ⊢
        rcases h with h | h <;> simp [h]))
      · rw [hw, hg]
        congr 2
        apply Array.toList_inj.1
        simp only [List.toList_toArray]
        rw [← hcv, ← List.drop_drop, List.append_assoc, List.take_append_drop, List.take_append_drop]
      · have := g4 (c' := c') (x' := .und) (w' := w) (b' := []) hle (fun r _ => by rw [hw]) (by unfold CellN; rw [hl]; exact .inl ⟨rfl, rfl⟩)
        rw [hsame] at this
        exact this)
    (fun c' hw hle hble => by
      simp only [RepE]
      exact ⟨w, us, rfl, hk', by rw [hw]; exact hown, RepL.mono hle ys us (fun j hj => by rw [norefL_of_pureL ys hpy] at hj; cases hj) hrl, huc, hpy⟩)
  refine ⟨w, c', by rw [hw]; simp [execOp, hrun], ?_, h2, h3⟩
  simp only [RepV]
  refine ⟨?_, _, _, _, _, eb2, Nat.le_refl _, fun _ => rfl⟩
  obtain ⟨ad, cpp, hww⟩ := ownsRow_len hown
  rw [hww]; rfl
/-- A SLICE IS PUT INTO A HOLE: the element owns it from then on. -/
theorem ok_putN {n2 : Nat} (hx : ev x = .eptr id n i o0) (hm : m id = some (.nest e0 k os xs)) (hn : n = xs.length) (hz : xs[i]? = some (.agg cs)) (hc : cs[o0]? = some .und) (hl : os.lookup o0 = some (e', k')) (hy : ev y = .arr id2 n2) (hm2 : m id2 = some (.arr e' k' ys)) (hn2 : n2 = ys.length) (hpr2 : ¬ pr id2) (ht : tok P t = true) (hs : tsize P t = 1) :
    OpOkR P pr ⟨.none, .store t x y, ty, pos, af, gd⟩ ev m .und ((m.put id (.nest e0 k os (xs.set i (.agg (cs.set o0 (.lst k' ys)))))).put id2 .dead) := by
  have hne : id ≠ id2 := fun h => by rw [h, hm2] at hm; cases hm
  refine OpOkR.skip rfl fun c a hev hM => ?_
  have hv := hev x (by simp [Op.operands])
  rw [hx] at hv
  have hvy := hev y (by simp [Op.operands])
  rw [hy] at hvy
  obtain ⟨us, hB2, hk', hown, hrl, huc, hpy⟩ := arr_now hM hvy hm2 hn2
  have hent := hM.ent id
  rw [hm] at hent
  obtain ⟨g, cap, cur, v, bp, bs, bq, hB, hg, hcs, hnc, hk, hvk, hv1, hcv, hel, hnd, hgn, hfin⟩ := nest_rep hent hz
  have he := eptr_now hv hB hn
  obtain ⟨cs', ws, h1, rfl, hC⟩ := hel
  cases h1
  have hwl : ws.length = k := by simpa [Value.cells] using hvk
  have hcv' : (cur.toList.drop (i * k)).take k = ws := by simpa [Value.cells] using hcv
  obtain ⟨w0, cp, cb, cq, g1, rfl, g3, g4⟩ := hC.at hc
  rw [Nat.zero_add] at g3 g4
  have hcb : cb = [] := by
    unfold CellN at g3
    rw [hl] at g3
    rcases g3 with ⟨_, h⟩ | ⟨_, _, h, _⟩
    · exact h
    · cases h
  subst hcb
  have hok : o0 < k := by rw [← hwl]; exact (List.getElem?_eq_some_iff.1 g1).1
  have hi : i < xs.length := (List.getElem?_eq_some_iff.1 hz).1
  have hik : i * k + k ≤ cur.size := by
    have h1 := Nat.mul_le_mul_right k (show i + 1 ≤ cap by omega)
    rw [Nat.add_mul, Nat.one_mul] at h1; omega
  have hy1 : (a.eval y).oneCell' = true := by
    obtain ⟨ad, cpp, hww⟩ := ownsRow_len hown
    rw [hww]; rfl
  have hyc := vcells_of_oneCell hy1
  have hrun := run_store_row (P := P) (t := t) (v := a.eval y) (off := i * k + o0) ht (by rw [hs, hyc]; rfl) hg (by rw [hyc]; simp; omega) (by rw [hyc]; simpa using hy1)
  rw [hyc] at hrun
  have hset := set_mid_row (w' := a.eval y) hcv' (by simpa using hik) hok
  have hrow : (cur.toList.take (i * k + o0) ++ [a.eval y] ++ cur.toList.drop (i * k + o0 + 1)) = cur.toList.take (i * k) ++ (Value.agg (ws.set o0 (a.eval y)).toArray).cells.toList ++ cur.toList.drop (i * k + k) := by rw [hset]; simp [Value.cells]
  -- the block of the slice is not one of the row's
  have hfresh : ∀ b, (a.eval y).ownBlock = some b → b ≠ g ∧ b ∉ bp ++ ((cp ++ ([] ++ cq)) ++ bq) := fun b hb => by
    constructor
    · intro hbg
      exact hne (hM.inj id id2 _ _ b hB hB2 (.inl (by rw [hbg]; rfl)) (.inl hb))
    · intro hin
      exact hne (hM.inj id id2 _ _ b hB hB2 (.inr hin) (.inl hb))
  have hnd' : (bp ++ ((cp ++ ((a.eval y).ownBlock.toList ++ cq)) ++ bq)).Nodup := by
    cases hb : (a.eval y).ownBlock with
    | none => simpa [hb] using hnd
    | some b =>
      have hf := (hfresh b hb).2
      have hp : (bp ++ ((cp ++ ((some b).toList ++ cq)) ++ bq)).Perm (b :: (bp ++ ((cp ++ ([] ++ cq)) ++ bq))) := by
        simp only [Option.toList_some, List.singleton_append, List.nil_append]
        refine (List.Perm.append_left bp ?_).trans (List.perm_middle)
        rw [List.append_assoc, List.append_assoc, List.cons_append]
        exact List.perm_middle
      exact hp.nodup_iff.2 (List.nodup_cons.2 ⟨hf, hnd⟩)
  obtain ⟨c', hw, eb1, eb2, h2, h3⟩ := hM.upd2 (pr := pr) id id2 hne (.nest e0 k os (xs.set i (.agg (cs.set o0 (.lst k' ys))))) .dead (.arr (.slice (some ⟨g, 0, .none⟩) xs.length cap) k xs.length (bp ++ ((cp ++ ((a.eval y).ownBlock.toList ++ cq)) ++ bq))) (.arr (.slice .none 0 0) k' (ys.length + 1) []) (c.w.setRow g (cur.toList.take (i * k + o0) ++ [a.eval y] ++ cur.toList.drop (i * k + o0 + 1)).toArray) rfl rfl rfl (Nat.le_refl _) (by simp)
    (fun b _ h1 _ => setRow_other _ _ _ _ (fun hbg => h1 _ hB (.inl (by rw [hbg]; rfl))))
    (fun b hb => by
      rcases hb with hb | hb
      · rcases hb with hb | hb
        · exact .inl ⟨_, hB, .inl hb⟩
        · simp only [List.mem_append, Option.mem_toList] at hb
          rcases hb with h | (h | h | h) | h
          · exact .inl ⟨_, hB, .inr (by simp [h])⟩
          · exact .inl ⟨_, hB, .inr (by simp [h])⟩
          · exact .inr (.inl ⟨_, hB2, .inl h⟩)
          · exact .inl ⟨_, hB, .inr (by simp [h])⟩
          · exact .inl ⟨_, hB, .inr (by simp [h])⟩
      · rcases hb with hb | hb
        · simp [Value.ownBlock] at hb
        · cases hb)
    (fun b _ hb2 => by
      rcases hb2 with hb | hb
      · simp [Value.ownBlock] at hb
      · cases hb)
    (by rw [hB]; exact ⟨_, _, _, rfl, Nat.le_refl _, fun _ => rfl⟩) (by rw [hB2]; exact ⟨_, _, _, rfl, by omega, fun h => by omega⟩) (fun _ be0 h0 => by rw [hB] at h0; cases h0; exact ⟨_, rfl⟩) (fun h => absurd h hpr2)
    (fun c' hw hle hble => by
      have hoth : ∀ b, b ≠ g → c'.w.heap[b]? = c.w.heap[b]? := fun b hb => by rw [hw]; exact setRow_other _ _ _ _ hb
      refine hfin c' _ (.agg (ws.set o0 (a.eval y)).toArray) _ hle (by rw [hw, hrow]; exact setRow_heap c.w g _ _ e0 _ hg) (fun q hq => hoth q (fun hqg => hgn (by rw [← hqg]; simp at hq ⊢; rcases hq with h | h <;> simp [h]))) (by simp [Value.cells, hwl]) (fun q hq => by
        simp only [Value.cells] at hq hv1
        have hq' : q ∈ ws.set o0 (a.eval y) := by simpa using hq
        rcases List.mem_or_eq_of_mem_set hq' with h | h
        · exact hv1 q (by simpa using h)
        · rw [h]; exact hy1) ⟨_, _, rfl, rfl, ?_⟩ hnd' (fun h => ?_)
      · refine g4 (c' := c') (x' := .lst k' ys) (w' := a.eval y) (b' := (a.eval y).ownBlock.toList) hle (fun r hr => hoth r (fun hrg => hgn (by rw [← hrg]; simp at hr ⊢; rcases hr with h | h <;> simp [h]))) ?_
        unfold CellN
        rw [hl]
        exact .inr ⟨ys, us, rfl, hk', ownsRow_same hown (fun b hb => hoth b (hfresh b hb).1), RepL.mono hle ys us (fun j hj => by rw [norefL_of_pureL ys hpy] at hj; cases hj) hrl, huc, hpy, rfl⟩
      · simp only [List.mem_append, Option.mem_toList] at h
        rcases h with h | h | h
        · exact hgn (by simp [h])
        · exact (hfresh g h).1 rfl
        · exact hgn (by simp [h]))
    (fun c' hw hle hble => by simp only [RepE]; exact ⟨_, _, _, rfl, rfl⟩)
  refine ⟨c', ?_, h2, h3⟩
  rw [hw]
  simp [execOp, he, hrun]
end
end Go.L
