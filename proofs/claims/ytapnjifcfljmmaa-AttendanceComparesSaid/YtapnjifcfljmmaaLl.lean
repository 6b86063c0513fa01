/- A logic over logical memory, part 24: rows whose elements own slices. -/
import Derived.Test.YtapnjifcfljmmaaLz
set_option linter.unusedVariables false
set_option linter.unusedSimpArgs false
namespace Go.L
section
variable {P : Program} {N : Nat} {pr : Nat → Prop} {ops : Array Oper} {e : Env} {m m' : Mem} {ev : Operand → LV} {o : Oper} {lv : LV} {l : List Oper} {KE : Env → Mem → Prop}
/-- one element of the row, and the row with another one in its place -/
theorem RepN.at {c : Cx} {os : List (Nat × Nat × Nat)} : ∀ {xs : List LV} {vs : List Value} {bs : List Nat}, RepN c os xs vs bs → ∀ {i : Nat} {x : LV}, xs[i]? = some x →
    ∃ v bp b bq, vs[i]? = some v ∧ bs = bp ++ (b ++ bq) ∧ ElN c os x v b ∧ ∀ {c' : Cx} {x' : LV} {v' : Value} {b' : List Nat}, c.Le c' → (∀ q ∈ bp ++ bq, c'.w.heap[q]? = c.w.heap[q]?) → ElN c' os x' v' b' → RepN c' os (xs.set i x') (vs.set i v') (bp ++ (b' ++ bq))
  | [], _, _, h, i, x, hx => by simp at hx
  | y :: ys, vs, bs, h, i, x, hx => by
    simp only [RepN] at h
    obtain ⟨v, vs', b1, b2, rfl, rfl, h1, h2⟩ := h
    cases i with
    | zero =>
      simp at hx; subst hx
      refine ⟨v, [], b1, b2, by simp, by simp, h1, fun {c' x' v' b'} hle hh he => ?_⟩
      simp only [List.set_cons_zero, RepN, List.nil_append]
      exact ⟨v', vs', b', b2, rfl, rfl, he, h2.mono hle (fun q hq => hh q (by simp [hq]))⟩
    | succ i =>
      simp at hx
      obtain ⟨u, bp, b, bq, g1, rfl, g3, g4⟩ := h2.at hx
      refine ⟨u, b1 ++ bp, b, bq, by simpa using g1, by simp, g3, fun {c' x' v' b'} hle hh he => ?_⟩
      simp only [List.set_cons_succ, RepN]
      refine ⟨v, vs'.set i v', b1, bp ++ (b' ++ bq), rfl, by simp, ?_, g4 hle (fun q hq => hh q (by simp at hq ⊢; rcases hq with h | h <;> simp [h])) he⟩
      obtain ⟨cs, ws, rfl, hv, hc⟩ := h1
      exact ⟨cs, ws, rfl, hv, hc.mono hle (fun q hq => hh q (by simp [hq]))⟩
theorem flat_set {k i : Nat} {vs : List Value} (h : ∀ v ∈ vs, v.cells.size = k) (hi : i < vs.length) {v' : Value} (hv : v'.cells.size = k) : flat (vs.set i v') = (flat vs).take (i * k) ++ v'.cells.toList ++ (flat vs).drop (i * k + k) := by
  have e1 : vs.set i v' = vs.take i ++ v' :: vs.drop (i + 1) := by rw [List.set_eq_take_append_cons_drop, if_pos hi]
  obtain ⟨f1, f2⟩ := flat_split h (i := i) (u := vs[i]) (by simp [hi])
  have hu : vs[i].cells.toList.length = k := by simpa using h _ (List.getElem_mem hi)
  rw [e1, flat_append, flat_cons, f1, ← f2]
  rw [List.take_left' rfl]
  have : (flat (vs.take i)).length + k = (flat (vs.take i)).length + vs[i].cells.toList.length := by omega
  have hd : ∀ (A B C : List Value), (A ++ (B ++ C)).drop (A.length + B.length) = C := fun A B C => by
    rw [← List.append_assoc, ← List.length_append, List.drop_left' rfl]
  rw [this, hd]
  simp
/-- ONE ELEMENT IS TURNED: where the row lies, and what is to be shown of the new world. -/
theorem RepM.nestAt {c : Cx} (hm : RepM c m) {id e0 k : Nat} {os : List (Nat × Nat × Nat)} {xs : List LV} (hid : m id = some (.nest e0 k os xs)) {i : Nat} {x : LV} (hx : xs[i]? = some x) :
    ∃ g cap cur v bs ins, c.B id = some (.arr (.slice (some ⟨g, 0, .none⟩) xs.length cap) k xs.length ins) ∧ c.w.heap[g]? = some (.cells cur e0 (0, 0)) ∧ cur.size = cap * k ∧ xs.length ≤ cap ∧ 0 < k ∧
      v.cells.size = k ∧ (∀ y ∈ v.cells, y.oneCell' = true) ∧ (cur.toList.drop (i * k)).take k = v.cells.toList ∧ ElN c os x v bs ∧ bs.Nodup ∧ g ∉ bs ∧ (∀ b ∈ bs, b ∈ ins) ∧
      ∀ (w' : World) (x' : LV) (v' : Value) (bs' : List Nat), w'.os = c.w.os → w'.tape = c.w.tape → w'.output = c.w.output → c.w.drawn ≤ w'.drawn → c.w.heap.size ≤ w'.heap.size →
        (∀ b, b < c.w.heap.size → b ≠ g → b ∉ bs → w'.heap[b]? = c.w.heap[b]?) →
        w'.heap[g]? = some (.cells (cur.toList.take (i * k) ++ v'.cells.toList ++ cur.toList.drop (i * k + k)).toArray e0 (0, 0)) → v'.cells.size = k → (∀ y ∈ v'.cells, y.oneCell' = true) →
        (∀ b ∈ bs', b ∈ bs ∨ c.w.heap.size ≤ b) → bs'.Nodup → (∀ c' : Cx, c'.w = w' → c.Le c' → ElN c' os x' v' bs') →
        ∃ c' : Cx, c'.w = w' ∧ RepM c' (m.put id (.nest e0 k os (xs.set i x'))) ∧ Step pr c c' := by
  have he := hm.ent id
  rw [hid] at he
  simp only [RepE] at he
  obtain ⟨u, vs, ins, hB, hk, hown, hn, hc, hnd, hno⟩ := he
  have hi : i < xs.length := (List.getElem?_eq_some_iff.1 hx).1
  obtain ⟨v, bp, bs, bq, hv, rfl, hel, hset⟩ := hn.at hx
  have hvm := List.mem_of_getElem? hv
  have hvl := hn.length
  rcases hown.2 with ⟨_, h0⟩ | ⟨g, cap, cur, rfl, hg0, hg, hnc, hcm, hcs, htk⟩
  · omega
  · have hgn : g ∉ bp ++ (bs ++ bq) := hno g rfl
    have hck : xs.length * k ≤ cap * k := Nat.mul_le_mul_right k hnc
    have hik : i * k + k ≤ xs.length * k := by
      have := Nat.mul_le_mul_right k (show i + 1 ≤ xs.length by omega)
      rw [Nat.add_mul, Nat.one_mul] at this; exact this
    have hcl : cur.toList.length = cur.size := by simp
    have hflen : (flat vs).length = xs.length * k := hown.1
    have hcurv : (cur.toList.drop (i * k)).take k = v.cells.toList := by
      obtain ⟨f1, f2⟩ := flat_split (fun v hv => (hc v hv).1) hv
      have hvk : v.cells.toList.length = k := by simpa using (hc v hvm).1
      have : (cur.toList.drop (i * k)).take k = ((flat vs).drop (i * k)).take k := by
        rw [← htk, List.drop_take, List.take_take]
        congr 1
        omega
      rw [this, f1, ← f2, List.drop_left' rfl, ← hvk, List.take_left' rfl]
    have hnd' := List.nodup_append.1 hnd
    have hnd2 := List.nodup_append.1 hnd'.2.1
    refine ⟨g, cap, cur, v, bs, _, hB, hg, hcs, hnc, hk, (hc v hvm).1, (hc v hvm).2, hcurv, hel, hnd2.1, fun h => hgn (by simp [h]), fun b hb => by simp [hb], ?_⟩
    intro w' x' v' bs' a1 a2 a3 a4 a5 hkeep hg' hv'k hv'1 hbs' hbnd hel'
    have hlt : ∀ b ∈ bp ++ (bs ++ bq), b < c.w.heap.size := hn.lt
    obtain ⟨c', hw, hb', h2, h3⟩ := hm.upd (pr := pr) id (.nest e0 k os (xs.set i x')) (.arr (.slice (some ⟨g, 0, .none⟩) xs.length cap) k xs.length (bp ++ (bs' ++ bq))) w' a1 a2 a3 a4 a5
      (fun b hb hne => by
        have := hne _ hB
        refine hkeep b hb (fun hbg => this (.inl (by rw [hbg]; rfl))) (fun hbb => this (.inr (by simp [hbb]))))
      (fun b hb => by
        rcases hb with hb | hb
        · exact .inl ⟨_, hB, .inl hb⟩
        · simp only [List.mem_append] at hb
          rcases hb with hb | hb | hb
          · exact .inl ⟨_, hB, .inr (by simp [hb])⟩
          · rcases hbs' b hb with h | h
            · exact .inl ⟨_, hB, .inr (by simp [h])⟩
            · exact .inr h
          · exact .inl ⟨_, hB, .inr (by simp [hb])⟩)
      (by rw [hB]; exact ⟨_, _, _, rfl, Nat.le_refl _, fun _ => rfl⟩) (fun _ be0 h0 => by rw [hB] at h0; cases h0; exact ⟨_, rfl⟩)
      (fun c' hw hle hble => by
        simp only [RepE, List.length_set]
        refine ⟨.slice (some ⟨g, 0, .none⟩) xs.length cap, vs.set i v', bp ++ (bs' ++ bq), rfl, hk, ⟨?_, .inr ⟨g, cap, _, rfl, hg0, by rw [hw]; exact hg', hnc, hcm, ?_, ?_⟩⟩, hset hle (fun q hq => ?_) (hel' c' hw hle), ?_, ?_, ?_⟩
        · rw [flat_length (k := k) (fun y hy => ?_)]
          · simp [hvl]
          · rcases List.mem_or_eq_of_mem_set hy with h | h
            · exact (hc y h).1
            · rw [h]; exact hv'k
        · have : v'.cells.toList.length = k := by simpa using hv'k
          simp only [List.size_toArray, List.length_append, List.length_take, List.length_drop, hcl, this, hcs]
          omega
        · rw [flat_set (fun y hy => (hc y hy).1) (by omega) hv'k, ← htk]
          have e2 : v'.cells.toList.length = k := by simpa using hv'k
          apply List.ext_getElem?
          intro j
          simp only [List.toList_toArray, List.getElem?_take, List.getElem?_append, List.length_append, List.length_take, List.getElem?_drop, e2, hcl]
          repeat' split
          all_goals first | rfl | omega | (congr 1; omega) | skip
        · refine (hw ▸ hkeep q (hlt q (by simp at hq ⊢; rcases hq with h | h <;> simp [h])) (fun hqg => hgn (by rw [← hqg]; simp at hq ⊢; rcases hq with h | h <;> simp [h])) (fun hqb => ?_))
          rcases List.mem_append.1 hq with h | h
          · exact hnd'.2.2 q h q (by simp [hqb]) rfl
          · exact hnd2.2.2 q hqb q h rfl
        · intro y hy
          rcases List.mem_or_eq_of_mem_set hy with h | h
          · exact hc y h
          · rw [h]; exact ⟨hv'k, hv'1⟩
        · refine List.nodup_append.2 ⟨hnd'.1, List.nodup_append.2 ⟨hbnd, hnd2.2.1, fun a ha b hb hab => ?_⟩, fun a ha b hb hab => ?_⟩
          · subst hab
            rcases hbs' a ha with h | h
            · exact hnd2.2.2 a h a hb rfl
            · have := hlt a (by simp [hb]); omega
          · subst hab
            rcases List.mem_append.1 hb with h | h
            · rcases hbs' a h with h' | h'
              · exact hnd'.2.2 a ha a (by simp [h']) rfl
              · have := hlt a (by simp [ha]); omega
            · exact hnd'.2.2 a ha a (by simp [h]) rfl
        · intro b hb
          have hbg : g = b := by simpa [Value.ownBlock] using hb
          subst hbg
          intro hc'
          simp only [List.mem_append] at hc'
          rcases hc' with h | h | h
          · exact hgn (by simp [h])
          · rcases hbs' g h with h' | h'
            · exact hgn (by simp [h'])
            · have := (Array.getElem?_eq_some_iff.1 hg).1; omega
          · exact hgn (by simp [h]))
    exact ⟨c', hw, h2, h3⟩
/- cells of which the owned ones are nil -/
def zN (os : List (Nat × Nat × Nat)) : Nat → List LV → List LV
  | _, [] => []
  | o, x :: xs => (match os.lookup o with | some (_, k) => .lst k [] | .none => x) :: zN os (o + 1) xs
def nOk (os : List (Nat × Nat × Nat)) : Nat → List LV → Bool
  | _, [] => true
  | o, x :: xs => (match os.lookup o with | some (_, k) => (match x with | .nil => Nat.ble 1 k | _ => false) | .none => x.pure) && nOk os (o + 1) xs
theorem RepC.ofNil {c : Cx} {os : List (Nat × Nat × Nat)} : ∀ {o : Nat} {cs : List LV} {ws : List Value}, RepL c cs ws → nOk os o cs = true → RepC c os o (zN os o cs) ws []
  | _, [], ws, h, _ => by simp only [RepL] at h; simp only [zN, RepC]; exact ⟨h, trivial⟩
  | o, x :: xs, ws, h, hn => by
    simp only [RepL] at h
    obtain ⟨w, ws', rfl, h1, h2⟩ := h
    simp only [nOk, Bool.and_eq_true] at hn
    simp only [zN, RepC]
    refine ⟨w, ws', [], [], rfl, rfl, ?_, RepC.ofNil h2 hn.2⟩
    unfold CellN
    cases hl : os.lookup o with
    | none => rw [hl] at hn; exact ⟨h1, hn.1, rfl⟩
    | some p =>
      obtain ⟨e, k⟩ := p
      rw [hl] at hn
      have hx : x = .nil ∧ 0 < k := by
        have := hn.1
        cases x <;> simp at this
        exact ⟨rfl, this⟩
      obtain ⟨rfl, hk⟩ := hx
      simp only [RepV] at h1
      subst h1
      exact .inr ⟨[], [], rfl, hk, World.ownsRow_nil c.w 0 e k, by simp [RepL], by simp, rfl, by simp [Value.ownBlock]⟩
/-- the row's slice, now -/
theorem nest_now {c : Cx} {m : Mem} (hm : RepM c m) {id n e0 k : Nat} {os : List (Nat × Nat × Nat)} {xs : List LV} {v : Value} (hv : RepV c (.arr id n) v) (hid : m id = some (.nest e0 k os xs)) (hn : n = xs.length) :
    ∃ vs ins, c.B id = some (.arr v k xs.length ins) ∧ 0 < k ∧ c.w.ownsRow 0 e0 k v xs.length (flat vs) ∧ RepN c os xs vs ins ∧ (∀ v ∈ vs, v.cells.size = k ∧ ∀ y ∈ v.cells, y.oneCell' = true) := by
  have he := hm.ent id
  rw [hid] at he
  simp only [RepE] at he
  obtain ⟨u, vs, ins, hB, hk, hown, hl, hc, _⟩ := he
  simp only [RepV] at hv
  obtain ⟨_, u', k', len, ins', hB', hle', hv⟩ := hv
  rw [hB] at hB'
  cases hB'
  have := hv hn
  subst this
  exact ⟨vs, ins, hB, hk, hown, hl, hc⟩
theorem ok_ixN {d : Option Nat} {x y : Operand} {t ty : TypeId} {pos : String} {af : Array Edge} {g : Option (Nat × Bool)} {el kk id n : Nat} {os : List (Nat × Nat × Nat)} {xs : List LV} {k : IntKind} {u : Int} (he : telem P t = some el) (hk : tok P el = true) (hs : tsize P el = kk) (hx : ev x = .arr id n) (hm : m id = some (.nest el kk os xs)) (hn : n = xs.length) (hy : ev y = .int k u) (h0 : 0 ≤ u) (h1 : u.toNat < xs.length) :
    OpOkR P pr ⟨d, .indexAddr t x y, ty, pos, af, g⟩ ev m (.eptr id n u.toNat 0) m := by
  have hu := elem_of he
  refine OpOkR.value fun c a hev hM => ?_
  have hvi := hev y (by simp [Op.operands])
  rw [hy] at hvi
  simp only [RepV] at hvi
  have hv := hev x (by simp [Op.operands])
  rw [hx] at hv
  obtain ⟨vs, ins, hB, hk0, hown, hl, hc⟩ := nest_now hM hv hm hn
  subst hn
  rcases hown.2 with ⟨_, h00⟩ | ⟨g, cap, cur, hvv, _⟩
  · omega
  · refine ⟨.pointer (some ⟨g, u.toNat * kk, .none⟩), c, ?_, ?_, hM, Step.refl pr c⟩
    · unfold tok at hk
      cases hie : P.info? el with
      | none => simp [hie] at hk
      | some ie =>
        have hks : kk = ie.size := by rw [← hs]; simp [tsize, hie]
        have hlt' : u < (xs.length : Int) := by omega
        simp [execOp, hvv, hvi, Instr.indexAt, asIntOf, run_underlying hu, h0, hlt', sizeOf, typeInfo, hie, Addr.add_mid, hks]
    · simp only [RepV]
      exact ⟨rfl, _, kk, xs.length, _, hB, by omega, fun _ => ⟨g, by rw [hvv]; rfl, by simp⟩⟩
/-- a whole element is stored, whose owned slices are nil -/
theorem ok_stN {x y : Operand} {t ty : TypeId} {pos : String} {af : Array Edge} {g : Option (Nat × Bool)} {e0 k id n i : Nat} {os : List (Nat × Nat × Nat)} {xs : List LV} {cs : List LV} {z : LV} (hx : ev x = .eptr id n i 0) (hm : m id = some (.nest e0 k os xs)) (hn : n = xs.length) (hz : xs[i]? = some z) (hy : ev y = .agg cs) (ht : tok P t = true) (hs : tsize P t = k) (hl : cs.length = k) (hsc : cs.all LV.scalar = true) (hok : nOk os 0 cs = true) :
    OpOkR P pr ⟨.none, .store t x y, ty, pos, af, g⟩ ev m .und (m.put id (.nest e0 k os (xs.set i (.agg (zN os 0 cs))))) := by
  refine OpOkR.skip rfl fun c a hev hM => ?_
  have hv := hev x (by simp [Op.operands])
  rw [hx] at hv
  have hvy := hev y (by simp [Op.operands])
  rw [hy] at hvy
  obtain ⟨hyl, hy1⟩ := hvy.cellsOf (by simpa [LV.cells] using hsc)
  simp only [RepV] at hvy
  obtain ⟨ws, hye, hrl⟩ := hvy
  have hwl : ws.length = k := by rw [← hrl.length]; exact hl
  obtain ⟨gb, cap, cur, v, bs, ins, hB, hg, hcs, hnc, hk, hvk, hv1, hcv, hel, hnd, hgb, hins, hfin⟩ := hM.nestAt (pr := pr) hm hz
  simp only [RepV] at hv
  obtain ⟨_, u', k', len, ins', hB', hle', hv⟩ := hv
  rw [hB] at hB'
  cases hB'
  obtain ⟨b, hb, hve⟩ := hv hn
  have hbg : gb = b := by simpa [Value.ownBlock] using hb
  subst hbg
  have hi : i < xs.length := (List.getElem?_eq_some_iff.1 hz).1
  have hik : i * k + k ≤ cur.size := by
    have h1 := Nat.mul_le_mul_right k (show i + 1 ≤ cap by omega)
    rw [Nat.add_mul, Nat.one_mul] at h1; omega
  have hyc : (a.eval y).cells.size = k := by rw [hye]; simp [Value.cells, hwl]
  have hrun := run_store_row (P := P) (t := t) (v := a.eval y) (off := i * k) ht (by rw [hs, hyc]) hg (by rw [hyc]; exact hik) hy1
  have hyt : (a.eval y).cells.toList.length = k := by simpa using hyc
  rw [hyt] at hrun
  have hpcs : LV.pureL cs = true := by
    have key : ∀ (cs : List LV) (o : Nat), nOk os o cs = true → LV.pureL cs = true := by
      intro cs
      induction cs with
      | nil => intros; rfl
      | cons x xs ih =>
        intro o h
        simp only [nOk, Bool.and_eq_true] at h
        simp only [LV.pureL, Bool.and_eq_true]
        refine ⟨?_, ih _ h.2⟩
        cases hl : os.lookup o with
        | none => rw [hl] at h; exact h.1
        | some p => rw [hl] at h; cases x <;> simp at h; rfl
    exact key cs 0 hok
  obtain ⟨c', hw, h2, h3⟩ := hfin (c.w.setRow gb (cur.toList.take (i * k) ++ (a.eval y).cells.toList ++ cur.toList.drop (i * k + k)).toArray) (.agg (zN os 0 cs)) (a.eval y) [] rfl rfl rfl (Nat.le_refl _) (by simp)
    (fun b hb hne _ => setRow_other _ _ _ _ hne) (setRow_heap c.w gb _ _ e0 _ hg) hyc hy1 (by simp) (by simp) (fun c' hw hle => ⟨zN os 0 cs, ws, rfl, hye, RepC.ofNil (RepL.mono hle cs ws (fun j hj => by rw [norefL_of_pureL cs hpcs] at hj; cases hj) hrl) hok⟩)
  refine ⟨c', ?_, h2, h3⟩
  rw [hw]
  simp only [Nat.add_zero] at hve
  simp [execOp, hve, hrun]
theorem RepN.repl {c : Cx} {os : List (Nat × Nat × Nat)} {x : LV} {v : Value} (h : ElN c os x v []) : ∀ n, RepN c os (List.replicate n x) (List.replicate n v) []
  | 0 => by simp [RepN]
  | n + 1 => by
    simp only [List.replicate_succ, RepN]
    exact ⟨v, List.replicate n v, [], [], rfl, rfl, h, RepN.repl h n⟩
theorem ok_mkN {x y : Operand} {t ty : TypeId} {pos : String} {af : Array Edge} {g : Option (Nat × Bool)} {d e0 k id : Nat} {os : List (Nat × Nat × Nat)} {zc : List LV} {n : Int} (hte : telem P t = some e0) (hz : tzero P e0 = some (.agg zc)) (hrow : trow P e0 = true) (hs : tsize P e0 = k) (hx : ev x = .int .i64 n) (hy : ev y = .int .i64 n) (h0 : 0 ≤ n) (hb : n ≤ 1099511627776) (hid : m id = .none) (hok : nOk os 0 zc = true) :
    OpOkR P pr ⟨some d, .makeSlice t x y, ty, pos, af, g⟩ ev m (.arr id n.toNat) (m.put id (.nest e0 k os (List.replicate n.toNat (.agg (zN os 0 zc))))) := by
  have hu := elem_of hte
  obtain ⟨i, zv, hi, hzv, hzs, hz1, hsz, hby, hts⟩ := row_of hrow
  subst hs
  refine OpOkR.value fun c a hev hm => ?_
  have hvx := hev x (by simp [Op.operands])
  have hvy := hev y (by simp [Op.operands])
  rw [hx] at hvx
  rw [hy] at hvy
  simp only [RepV] at hvx hvy
  have hzz : ofV zv = .agg zc := by
    simp only [tzero, hi, hzv] at hz
    split at hz
    · simpa using hz
    · cases hz
  have hbytes : (i.bytes : Int) * n ≤ 281474976710656 := by
    have h1 : (i.bytes : Int) * n ≤ 128 * n := Int.mul_le_mul_of_nonneg_right (by omega) h0
    omega
  have hrun := run_make (P := P) c.w t e0 i zv hu hi hzv .i64 .i64 n n h0 (Int.le_refl _) hbytes (by omega)
  have hB := hm.fresh hid
  have hcells : (madeCells zv.cells (n.toNat * i.size)).toList = flat (List.replicate n.toNat zv) := by
    apply List.ext_getElem?
    intro j
    rw [flat_get hsz (fun v hv => by rw [List.eq_of_mem_replicate hv]; exact hzs)]
    simp only [Array.getElem?_toList, madeCells, Array.getElem?_map, Array.getElem?_range, List.getElem?_replicate, hzs]
    by_cases hj : j < n.toNat * i.size
    · have h1 : j / i.size < n.toNat := (Nat.div_lt_iff_lt_mul hsz).2 hj
      have h2 : j % i.size < zv.cells.size := by rw [hzs]; exact Nat.mod_lt _ hsz
      rw [if_pos hj, if_pos h1]
      simp [h2]
    · have h1 : ¬ j / i.size < n.toNat := fun hh => hj ((Nat.div_lt_iff_lt_mul hsz).1 hh)
      rw [if_neg hj, if_neg h1]
      rfl
  have hsize : (madeCells zv.cells (n.toNat * i.size)).size = n.toNat * i.size := size_madeCells _ _
  have hel : ∀ c' : Cx, ElN c' os (.agg (zN os 0 zc)) zv [] := fun c' => by
    have hr := repV_ofV c' zv
    rw [hzz] at hr
    simp only [RepV] at hr
    obtain ⟨ws, he, hl⟩ := hr
    exact ⟨_, ws, rfl, he, RepC.ofNil hl hok⟩
  obtain ⟨c', hw, hb', h2, h3⟩ := hm.upd (pr := pr) id (.nest e0 (tsize P e0) os (List.replicate n.toNat (.agg (zN os 0 zc)))) (.arr (.slice (some ⟨c.w.heap.size, 0, .none⟩) n.toNat n.toNat) (tsize P e0) n.toNat [])
    (c.w.alloc (.cells (madeCells zv.cells (n.toNat * i.size)) e0)) rfl rfl rfl (Nat.le_refl _) (by simp)
    (fun b hb' _ => heap_alloc_old c.w _ b hb') (fun b hb' => by simp [BE.has, Value.ownBlock] at hb'; exact .inr (by omega)) (by rw [hB]; trivial) (fun _ be0 h0 => by rw [hB] at h0; cases h0)
    (fun c' hw hle hble => by
      simp only [RepE, hts, List.length_replicate]
      refine ⟨_, List.replicate n.toNat zv, [], rfl, hsz, ⟨by rw [flat_length (k := i.size) (fun v hv => by rw [List.eq_of_mem_replicate hv]; exact hzs)]; simp, .inr ⟨c.w.heap.size, n.toNat, _, rfl, Nat.zero_le _, by rw [hw]; exact heap_alloc_new c.w _, Nat.le_refl _, by simp only [maxLen]; omega, hsize, ?_⟩⟩, RepN.repl (hel c') _, ?_, by simp, by simp⟩
      · rw [List.take_of_length_le (by rw [Array.length_toList, hsize]; exact Nat.le_refl _), hcells]
      · intro v hv
        rw [List.eq_of_mem_replicate hv]
        exact ⟨hzs, hz1⟩)
  refine ⟨.slice (some ⟨c.w.heap.size, 0, .none⟩) n.toNat n.toNat, c', by rw [hw]; simp [execOp, hvx, hvy, hrun], ?_, h2, h3⟩
  simp only [RepV]
  exact ⟨rfl, _, _, _, _, hb', Nat.le_refl _, fun _ => rfl⟩
end
/- settled -/
theorem OwnC.frz {c c' : Cx} (hle : c.Le c') (hw : c'.w = c.w) {e k : Nat} {x : LV} {v : Value} {bs : List Nat} (hX : ∀ b ∈ bs, ¬ c'.X b) (h : OwnC c e k x v bs) : RepV c' x v := by
  rcases h with ⟨rfl, _⟩ | ⟨ys, us, rfl, hk, hown, hl, hc, hp, rfl⟩
  · simp only [RepV]
  · simp only [RepV]
    have hl' := RepL.mono hle ys us (fun j hj => by rw [norefL_of_pureL ys hp] at hj; cases hj) hl
    rcases hown.2 with ⟨rfl, h0⟩ | ⟨g, cap, cur, rfl, _, hg, hnc, _⟩
    · exact ⟨.none, 0, by rw [h0], by omega, fun _ => rfl, hp, .inl (List.eq_nil_of_length_eq_zero h0)⟩
    · refine ⟨some ⟨g, 0, .none⟩, cap, rfl, hnc, by simp, hp, .inr ⟨g, 0, us, rfl, by rw [hw]; exact (Array.getElem?_eq_some_iff.1 hg).1, hX g (by simp [Value.ownBlock]), hl', hc, ?_⟩⟩
      rw [hw]; exact rangeAt_own hown rfl
theorem RepC.frz {c c' : Cx} (hle : c.Le c') (hw : c'.w = c.w) {os : List (Nat × Nat × Nat)} : ∀ {o : Nat} {xs : List LV} {ws : List Value} {bs : List Nat}, (∀ b ∈ bs, ¬ c'.X b) → RepC c os o xs ws bs → RepL c' xs ws
  | _, [], _, _, _, h => by simp only [RepC] at h; simp only [RepL]; exact h.1
  | o, x :: xs, ws, bs, hX, h => by
    simp only [RepC] at h
    obtain ⟨w, ws', b1, b2, rfl, rfl, h1, h2⟩ := h
    simp only [RepL]
    refine ⟨w, ws', rfl, ?_, RepC.frz hle hw (fun b hb => hX b (by simp [hb])) h2⟩
    unfold CellN at h1
    split at h1
    · exact OwnC.frz hle hw (fun b hb => hX b (by simp [hb])) h1
    · exact RepV.mono hle x w (fun id hid => by rw [noref_of_pure x h1.2.1] at hid; cases hid) h1.1
theorem RepN.frz {c c' : Cx} (hle : c.Le c') (hw : c'.w = c.w) {os : List (Nat × Nat × Nat)} : ∀ {xs : List LV} {vs : List Value} {bs : List Nat}, (∀ b ∈ bs, ¬ c'.X b) → RepN c os xs vs bs → RepL c' xs vs
  | [], _, _, _, h => by simp only [RepN] at h; simp only [RepL]; exact h.1
  | x :: xs, vs, bs, hX, h => by
    simp only [RepN] at h
    obtain ⟨v, vs', b1, b2, rfl, rfl, ⟨cs, ws, rfl, rfl, h1⟩, h2⟩ := h
    simp only [RepL]
    refine ⟨_, vs', rfl, ?_, RepN.frz hle hw (fun b hb => hX b (by simp [hb])) h2⟩
    simp only [RepV]
    exact ⟨ws, rfl, h1.frz hle hw (fun b hb => hX b (by simp [hb]))⟩
/-- A ROW THAT IS WRITTEN NO MORE IS SETTLED, with all that its elements own. -/
theorem Wk.frzN {pr : Nat → Prop} {el : List (Nat × LV)} {ml : List (Nat × LE)} (id e k : Nat) (os : List (Nat × Nat × Nat)) (xs : List LV) (hid : Mem.of ml id = some (.nest e k os xs)) (hp : LV.pureL xs = true) (hfree : freeB id ml = true) (hpr : ¬ pr id) :
    Wk pr (Env.of el) (Mem.of ml) (Env.of (el.map fun p => (p.1, p.2.frzA id k xs))) (Mem.of (ml.filter fun q => q.1 != id)) := by
  intro N c a hrep
  rw [← Env.of_map el (LV.frzA id k xs) (by simp [LV.frzA]), ← Mem.of_del]
  obtain ⟨c', hw, hO, hm', hV, hown, hX, hB⟩ := hrep.mem.del id (freeB_of hfree)
  refine ⟨c', hw, ⟨fun i => frzA_rep hV ?_ _ _ (hrep.env i), hm', hrep.size, hrep.defers⟩, ?_⟩
  · intro v hv
    obtain ⟨vs, ins, hBb, hk, hown', hn, hc⟩ := nest_now hrep.mem hv hid rfl
    simp only [RepV]
    have hle : c.Le c' := ⟨by rw [hw]; exact Nat.le_refl _, fun b _ hx => ⟨by rw [hw], fun hx' => hx (hx'.imp (fun h => by rw [hO] at h; exact h) (hown b))⟩⟩
    have hl' : RepL c' xs vs := hn.frz hle hw (fun b hb => hX b _ hBb (.inr hb))
    rcases hown'.2 with ⟨rfl, h0⟩ | ⟨g, cap, cur, rfl, _, hg, hnc, _⟩
    · exact ⟨.none, 0, by rw [h0], by omega, fun _ => rfl, hp, .inl (List.eq_nil_of_length_eq_zero h0)⟩
    · refine ⟨some ⟨g, 0, .none⟩, cap, rfl, hnc, by simp, hp, .inr ⟨g, 0, vs, rfl, by rw [hw]; exact (Array.getElem?_eq_some_iff.1 hg).1, hX g _ hBb (.inl rfl), hl', hc, ?_⟩⟩
      rw [hw]; exact rangeAt_own hown' rfl
  · refine ⟨hO, by rw [hw], by rw [hw], by rw [hw], by rw [hw]; exact Nat.le_refl _, by rw [hw]; exact Nat.le_refl _, fun b _ _ => by rw [hw], fun b ho => .inl (hown b ho), fun i be hpi hb => ?_⟩
    exact ⟨be, by rw [hB i (fun h => hpr (h ▸ hpi))]; exact hb, .refl be⟩
theorem Wk.frzNL {pr : Nat → Prop} {α : Type} {f : α → LV} {el el' : List (Nat × LV)} {ml : List (Nat × LE)} (id e0 k0 : Nat) (os : List (Nat × Nat × Nat)) (xs : List α) (hid : Mem.of ml id = some (.nest e0 k0 os (xs.map f))) (hok : OkF k0 f) (hfree : freeB id ml = true) (hpr : ¬ pr id) (h : FrzL id xs.length (.lst k0 (xs.map f)) el el') :
    Wk pr (Env.of el) (Mem.of ml) (Env.of el') (Mem.of (ml.filter fun q => q.1 != id)) :=
  (Wk.frzN id e0 k0 os (xs.map f) hid (hok.pureL xs) hfree hpr).trans fun N c a hr => ⟨c, rfl, ⟨fun i => FrzL.sub (by simp) h i c _ (hr.env i), hr.mem, hr.size, hr.defers⟩, .refl pr c⟩
/-- a step by meaning, in a region that draws its order -/
theorem mX {P : Program} {pr : Nat → Prop} {ro : List Nat} {ops : Array Oper} {l : List Oper} {mds : List Nat} {KE : Env → Mem → Prop} {e : Env} {m m' : Mem} {lv : LV} {i : Nat} {op : Op} {ty : TypeId} {pos : String} {af : Array Edge} (h : OpOkR P pr ⟨some i, op, ty, pos, af, .none⟩ (lev e) m lv m') (hr : LOpsM P pr ro ops (List.zip l mds) KE (e.put i lv) m') : LOpsM P pr ro ops (List.zip (⟨some i, op, ty, pos, af, .none⟩ :: l) (3 :: mds)) KE e m := ⟨lv, m', h, hr⟩
theorem mX_ {P : Program} {pr : Nat → Prop} {ro : List Nat} {ops : Array Oper} {l : List Oper} {mds : List Nat} {KE : Env → Mem → Prop} {e : Env} {m m' : Mem} {lv : LV} {op : Op} {ty : TypeId} {pos : String} {af : Array Edge} (h : OpOkR P pr ⟨.none, op, ty, pos, af, .none⟩ (lev e) m lv m') (hr : LOpsM P pr ro ops (List.zip l mds) KE e m') : LOpsM P pr ro ops (List.zip (⟨.none, op, ty, pos, af, .none⟩ :: l) (3 :: mds)) KE e m := ⟨lv, m', h, hr⟩
end Go.L
