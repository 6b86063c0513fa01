/- A logic over logical memory, part 6: each operation does what part 3 says, continued. -/
import Derived.Test.YtapnjifcfljmmaaLe
set_option linter.unusedVariables false
set_option linter.unusedSimpArgs false
namespace Go.L
section ops
variable {P : Program} {pr : Nat → Prop} {o : Oper} {ev : Operand → LV} {m m' : Mem} {lv : LV} {K : LV → Mem → Prop}

theorem arr_now {c : Cx} {m : Mem} (hm : RepM c m) {id n e k : Nat} {xs : List LV} {v : Value} (hv : RepV c (.arr id n) v) (hid : m id = some (.arr e k xs)) (hn : n = xs.length) :
    ∃ vs, c.B id = some (.arr v k xs.length []) ∧ 0 < k ∧ c.w.ownsRow 0 e k v xs.length (flat vs) ∧ RepL c xs vs ∧ (∀ v ∈ vs, v.cells.size = k ∧ ∀ y ∈ v.cells, y.oneCell' = true) ∧ LV.pureL xs = true := by
  obtain ⟨u, vs, hB, hk, hown, hl, hc, hpx⟩ := cell_arr hm hid
  simp only [RepV] at hv
  obtain ⟨_, u', k', len, ins', hB', hle', hv⟩ := hv
  rw [hB] at hB'
  cases hB'
  have := hv hn
  subst this
  exact ⟨vs, hB, hk, hown, hl, hc, hpx⟩

theorem ownsRow_len {w : World} {e k n : Nat} {v : Value} {vs : List Value} (h : w.ownsRow 0 e k v n vs) : ∃ a cap, v = .slice a n cap := by
  rcases h.2 with ⟨rfl, rfl⟩ | ⟨g, cap, cur, rfl, _⟩
  · exact ⟨_, _, rfl⟩
  · exact ⟨_, _, rfl⟩

theorem sound_nilCheck {x : Operand} (ho : o.op = .nilCheck x) (h : LOp P pr [] o ev m K) : ∃ lv m', K lv m' ∧ OpOk P pr o ev m lv m' := by
  simp only [LOp, ho] at h
  cases hx : ev x <;> simp only [hx] at h
  case ptr id off =>
    refine ⟨_, _, h, OpOk.same fun c a hev hm => ?_⟩
    have hv := hev x
    rw [hx] at hv
    have hv' := hv
    simp only [RepV] at hv'
    obtain ⟨b, n, _, he⟩ := hv'
    exact ⟨a.eval x, by simp [execOp, ho, he], hv⟩
  case sptr cs =>
    refine ⟨_, _, h, OpOk.same fun c a hev hm => ?_⟩
    have hv := hev x
    rw [hx] at hv
    have hv' := hv
    simp only [RepV] at hv'
    obtain ⟨b, off, vs, he, _⟩ := hv'
    exact ⟨a.eval x, by simp [execOp, ho, he], hv⟩
  case eptr id n i off =>
    obtain ⟨hn, hK⟩ := h
    refine ⟨_, _, hK, OpOk.same fun c a hev hm => ?_⟩
    have hv := hev x
    rw [hx] at hv
    cases hid : m id with
    | none => simp [hid] at hn
    | some le =>
      cases le with
      | map _ _ _ => simp [hid] at hn
      | nest _ _ _ _ => simp [hid] at hn
      | dead => simp [hid] at hn
      | box cs => simp [hid] at hn
      | arr e k xs =>
        simp only [hid] at hn
        obtain ⟨u, vs, hB, _⟩ := cell_arr hm hid
        have hv' := hv
        simp only [RepV] at hv'
        obtain ⟨_, u', k', len, ins', hB', hle', hv'⟩ := hv'
        rw [hB] at hB'
        cases hB'
        obtain ⟨b, _, he⟩ := hv' hn
        exact ⟨a.eval x, by simp [execOp, ho, he], hv⟩
  case fn f cap =>
    refine ⟨_, _, h, OpOk.same fun c a hev hm => ?_⟩
    have hv := hev x
    rw [hx] at hv
    have hv' := hv
    simp only [RepV] at hv'
    obtain ⟨vs, he, _⟩ := hv'
    exact ⟨a.eval x, by simp [execOp, ho, he], hv⟩

theorem exactL_rep {c : Cx} : ∀ {xs : List LV} {vs us : List Value}, exactL xs = some us → RepL c xs vs → vs = us
  | [], vs, us, h, hr => by simp [exactL] at h; simp [RepL] at hr; rw [hr, h]
  | x :: xs, vs, us, h, hr => by
    simp only [RepL] at hr
    obtain ⟨v, vs', rfl, hv, hr'⟩ := hr
    simp only [exactL] at h
    split at h
    · rename_i v0 us' h1 h2
      cases h
      rw [exactL_rep h2 hr']
      cases x <;> simp [exact1] at h1 <;> simp only [RepV] at hv <;> subst h1 <;> subst hv <;> rfl
    · cases h

theorem sound_binOp {op : BinOp} {t t' : TypeId} {x y : Operand} (ho : o.op = .binOp op t x y t') (h : LOp P pr [] o ev m K) : ∃ lv m', K lv m' ∧ OpOk P pr o ev m lv m' := by
  simp only [LOp, ho] at h
  cases hx : ev x <;> simp only [hx] at h
  case int k a =>
    cases hy : ev y <;> simp only [hy] at h
    case int k' b =>
      obtain ⟨rfl, h⟩ := h
      have guard : ∀ w, (eqGuard op t x y (.int k a) (.int k b)).run P w = .ok () w := by
        intro w; unfold eqGuard; cases op <;> simp
      have key : ∀ lv, (∀ w, (binOp op t (.int k a) (.int k b)).run P w = .ok lv w) → ∀ l : LV, (∀ c, RepV c l lv) → OpOk P pr o ev m l m := by
        intro lv hr l hl
        refine OpOk.same fun c ac hev hm => ?_
        have hvx := hev x
        have hvy := hev y
        rw [hx] at hvx
        rw [hy] at hvy
        simp only [RepV] at hvx hvy
        refine ⟨lv, ?_, hl c⟩
        simp [execOp, ho, hvx, hvy, guard, hr]
      cases op <;> simp only [intBin] at h
      case add => exact ⟨_, _, h, key (.int k (k.wrap (a + b))) (fun w => by simp [binOp, Op.intArith]) _ (fun c => by simp [RepV])⟩
      case sub => exact ⟨_, _, h, key (.int k (k.wrap (a - b))) (fun w => by simp [binOp, Op.intArith]) _ (fun c => by simp [RepV])⟩
      case mul => exact ⟨_, _, h, key (.int k (k.wrap (a * b))) (fun w => by simp [binOp, Op.intArith]) _ (fun c => by simp [RepV])⟩
      case quo => exact ⟨_, _, h.2, key (.int k (k.wrap (a.tdiv b))) (fun w => by simp [binOp, Op.intDiv, h.1]) _ (fun c => by simp [RepV])⟩
      case rem => exact ⟨_, _, h.2, key (.int k (a.tmod b)) (fun w => by simp [binOp, Op.intDiv, h.1]) _ (fun c => by simp [RepV])⟩
      case eql => exact ⟨_, _, h, key (.bool (a == b)) (fun w => by simp [binOp, Op.intCmp]) _ (fun c => by simp [RepV])⟩
      case neq => exact ⟨_, _, h, key (.bool (a != b)) (fun w => by simp [binOp, Op.intCmp]) _ (fun c => by simp [RepV])⟩
      case lss => exact ⟨_, _, h, key (.bool (decide (a < b))) (fun w => by simp [binOp, Op.intCmp]) _ (fun c => by simp [RepV])⟩
      case leq => exact ⟨_, _, h, key (.bool (decide (a ≤ b))) (fun w => by simp [binOp, Op.intCmp]) _ (fun c => by simp [RepV])⟩
      case gtr => exact ⟨_, _, h, key (.bool (decide (a > b))) (fun w => by simp [binOp, Op.intCmp]) _ (fun c => by simp [RepV])⟩
      case geq => exact ⟨_, _, h, key (.bool (decide (a ≥ b))) (fun w => by simp [binOp, Op.intCmp]) _ (fun c => by simp [RepV])⟩
  case bool a =>
    cases hy : ev y <;> simp only [hy] at h
    case bool b =>
      obtain ⟨ht, h⟩ := h
      have hu : P.underlying t = some .bool := by
        unfold tbool at ht
        split at ht
        · assumption
        · cases ht
      have guard : ∀ w, (eqGuard op t x y (.bool a) (.bool b)).run P w = .ok () w := by
        intro w; unfold eqGuard; cases op <;> simp
      have key : ∀ lv, (∀ w, (binOp op t (.bool a) (.bool b)).run P w = .ok lv w) → ∀ l : LV, (∀ c, RepV c l lv) → OpOk P pr o ev m l m := by
        intro lv hr l hl
        refine OpOk.same fun c ac hev hm => ?_
        have hvx := hev x
        have hvy := hev y
        rw [hx] at hvx
        rw [hy] at hvy
        simp only [RepV] at hvx hvy
        refine ⟨lv, ?_, hl c⟩
        simp [execOp, ho, hvx, hvy, guard, hr]
      have heq : ∀ w, (Op.equal t (.bool a) (.bool b)).run P w = .ok (a == b) w := fun w => run_equalIn_bool' w 9999 t a b hu
      cases op <;> simp only [] at h
      case eql => exact ⟨_, _, h, key (.bool (a == b)) (fun w => by simp [binOp, heq]) _ (fun c => by simp [RepV])⟩
      case neq => exact ⟨_, _, h, key (.bool (!(a == b))) (fun w => by simp [binOp, heq]) _ (fun c => by simp [RepV])⟩
  case agg xs =>
    cases hy : ev y <;> simp only [hy] at h
    case agg ys =>
      obtain ⟨b, ⟨hgd, us, ws, hus, hws, heq⟩, h⟩ := h
      have guard : ∀ w, (eqGuard op t x y (.agg us.toArray) (.agg ws.toArray)).run P w = .ok () w := by
        intro w; unfold eqGuard; cases op <;> simp [hgd]
      have key : ∀ lv, (∀ w, (binOp op t (.agg us.toArray) (.agg ws.toArray)).run P w = .ok lv w) → ∀ l : LV, (∀ c, RepV c l lv) → OpOk P pr o ev m l m := by
        intro lv hr l hl
        refine OpOk.same fun c ac hev hm => ?_
        have hvx := hev x
        have hvy := hev y
        rw [hx] at hvx
        rw [hy] at hvy
        simp only [RepV] at hvx hvy
        obtain ⟨vs1, hvx, hr1⟩ := hvx
        obtain ⟨vs2, hvy, hr2⟩ := hvy
        rw [exactL_rep hus hr1] at hvx
        rw [exactL_rep hws hr2] at hvy
        refine ⟨lv, ?_, hl c⟩
        simp [execOp, ho, hvx, hvy, guard, hr]
      cases op <;> simp only [] at h
      case eql => exact ⟨_, _, h, key (.bool b) (fun w => by simp [binOp, heq]) _ (fun c => by simp [RepV])⟩
      case neq => exact ⟨_, _, h, key (.bool (!b)) (fun w => by simp [binOp, heq]) _ (fun c => by simp [RepV])⟩

theorem sound_unOp {op : UnOp} {t : TypeId} {x : Operand} (ho : o.op = .unOp op t x) (h : LOp P pr [] o ev m K) : ∃ lv m', K lv m' ∧ OpOk P pr o ev m lv m' := by
  simp only [LOp, ho] at h
  cases op <;> cases hx : ev x <;> simp only [hx] at h
  case neg.int k n =>
      refine ⟨_, _, h, OpOk.same fun c a hev hm => ?_⟩
      have hv := hev x
      rw [hx] at hv
      simp only [RepV] at hv
      exact ⟨_, by simp [execOp, ho, hv, Op.unary, Op.intArith]; rfl, by simp [RepV]⟩
  case not.bool b =>
      refine ⟨_, _, h, OpOk.same fun c a hev hm => ?_⟩
      have hv := hev x
      rw [hx] at hv
      simp only [RepV] at hv
      exact ⟨_, by simp [execOp, ho, hv, Op.unary]; rfl, by simp [RepV]⟩

theorem sound_convert {s t : TypeId} {x : Operand} (ho : o.op = .convert s t x) (h : LOp P pr [] o ev m K) : ∃ lv m', K lv m' ∧ OpOk P pr o ev m lv m' := by
  simp only [LOp, ho] at h
  obtain ⟨hs, h⟩ := h
  cases ht : tint P t <;> simp only [ht] at h
  case some k =>
    cases hx : ev x <;> simp only [hx] at h
    case int k' n =>
      refine ⟨_, _, h, OpOk.same fun c a hev hm => ?_⟩
      have hv := hev x
      rw [hx] at hv
      simp only [RepV] at hv
      have hu : P.underlying t = some (.int k) := by
        unfold tint at ht
        split at ht
        · cases ht; assumption
        · cases ht
      unfold tok at hs
      cases hus : P.underlying s with
      | none => simp [hus] at hs
      | some d =>
        refine ⟨.int k (k.wrap n), ?_, by simp [RepV]⟩
        simp [execOp, ho, hv, convert, run_underlying hu, run_underlying hus, Conv.intToInt]

theorem sound_fieldAddr {t : TypeId} {x : Operand} {f : Nat} (ho : o.op = .fieldAddr t x f) (h : LOp P pr [] o ev m K) : ∃ lv m', K lv m' ∧ OpOk P pr o ev m lv m' := by
  simp only [LOp, ho] at h
  cases htf : tfield P t f <;> simp only [htf] at h
  case some q =>
    obtain ⟨off, ft⟩ := q
    simp only at h
    obtain ⟨hok, hsz, h⟩ := h
    obtain ⟨fs, fd, hu, hfd, rfl, rfl⟩ : ∃ fs fd, P.underlying t = some (.struct fs) ∧ fs[f]? = some fd ∧ fd.offset = off ∧ fd.type = ft := by
      unfold tfield at htf
      split at htf
      · rename_i fs hu
        cases hf : fs[f]? with
        | none => simp [hf] at htf
        | some fd => simp [hf] at htf; exact ⟨fs, fd, hu, hf, htf.1, htf.2⟩
      · cases htf
    have hrun : ∀ (w : World) (b q : Nat), (Instr.fieldAt t (.pointer (some ⟨b, q, .none⟩)) f).run P w = .ok (.pointer (some ⟨b, q + fd.offset, .none⟩)) w := by
      intro w b q
      have hi : ∃ i, P.info? fd.type = some i ∧ i.size ≠ 0 := by
        unfold tok at hok
        cases hi : P.info? fd.type with
        | none => simp [hi] at hok
        | some i => exact ⟨i, rfl, by simpa [tsize, hi] using hsz⟩
      obtain ⟨i, hi, hi0⟩ := hi
      simp [Instr.fieldAt, run_underlying hu, hfd, Instr.sureAddr, fieldPlace, sizeOf, typeInfo, hi, hi0, Addr.add_mid]
    cases hx : ev x <;> simp only [hx] at h
    case sptr cs =>
      refine ⟨_, _, h.2, OpOk.same fun c a hev hm => ?_⟩
      have hv := hev x
      rw [hx] at hv
      simp only [RepV] at hv
      obtain ⟨b, q, vs, he, hb, hX, hl, h1, hra⟩ := hv
      refine ⟨_, by simp [execOp, ho, he, hrun]; rfl, ?_⟩
      simp only [RepV]
      exact ⟨b, q + fd.offset, vs.drop fd.offset, rfl, hb, hX, hl.drop _, fun y hy => h1 y (List.mem_of_mem_drop hy), rangeAt_drop hra _⟩
    case ptr id q =>
      refine ⟨_, _, h, OpOk.same fun c a hev hm => ?_⟩
      have hv := hev x
      rw [hx] at hv
      simp only [RepV] at hv
      obtain ⟨b, n, hB, he⟩ := hv
      refine ⟨_, by simp [execOp, ho, he, hrun]; rfl, ?_⟩
      simp only [RepV]
      exact ⟨b, n, hB, rfl⟩
    case eptr id n i q =>
      obtain ⟨hn, hK⟩ := h
      refine ⟨_, _, hK, OpOk.same fun c a hev hm => ?_⟩
      have hv := hev x
      rw [hx] at hv
      cases hid : m id with
      | none => simp [hid] at hn
      | some le =>
        cases le with
        | map _ _ _ => simp [hid] at hn
        | nest _ _ _ _ => simp [hid] at hn
        | dead => simp [hid] at hn
        | box cs => simp [hid] at hn
        | arr e k xs =>
          simp only [hid] at hn
          obtain ⟨u, vs, hB, _⟩ := cell_arr hm hid
          simp only [RepV] at hv
          obtain ⟨_, u', k', len, ins', hB', hle', hv⟩ := hv
          rw [hB] at hB'
          cases hB'
          obtain ⟨b, hb, he⟩ := hv hn
          refine ⟨_, by simp [execOp, ho, he, hrun]; rfl, ?_⟩
          simp only [RepV]
          exact ⟨rfl, u, k, xs.length, _, hB, hle', fun _ => ⟨b, hb, by rw [Nat.add_assoc]⟩⟩

theorem run_part {t : TypeId} {cs : List LV} {off : Nat} (h : loadC P t (cs.drop off) fun lv => K lv m) (hoff : off ≤ cs.length) :
    ∃ lv, K lv m ∧ ∀ (c : Cx) (vs : List Value), RepL c cs vs → ∃ v, (part t vs.toArray off).run P c.w = .ok v c.w ∧ RepV c lv v := by
  obtain ⟨ht, h⟩ := h
  unfold tok at ht
  cases hi : P.info? t with
  | none => simp [hi] at ht
  | some i =>
    cases hu : P.underlying t with
    | none => simp [hu] at ht
    | some d =>
      have hsz : tsize P t = i.size := by simp [tsize, hi]
      by_cases hg : tagg P t = true
      · rw [if_pos hg] at h
        refine ⟨_, h.2, fun c vs hl => ?_⟩
        have hagg : (isAgg t).run P c.w = .ok true c.w := by
          unfold isAgg
          rw [Sem.run_bind, run_underlying hu c.w]
          simp only [tagg, hu] at hg
          cases d <;> simp_all
        refine ⟨.agg ((vs.drop off).take (tsize P t)).toArray, ?_, ?_⟩
        · simp only [part, Sem.run_bind, hagg, Result.andThen_ok, if_true, sizeOf, typeInfo, run_program, hi, Sem.run_pure, hsz]
          congr 2
          simp [List.extract_eq_take_drop]
        · simp only [RepV]
          exact ⟨_, rfl, (hl.drop off).take _⟩
      · rw [if_neg hg] at h
        cases hcs : cs.drop off with
        | nil => simp [hcs] at h
        | cons x r =>
          simp only [hcs] at h
          refine ⟨x, h, fun c vs hl => ?_⟩
          have hagg : (isAgg t).run P c.w = .ok false c.w := by
            unfold isAgg
            rw [Sem.run_bind, run_underlying hu c.w]
            simp only [tagg, hu] at hg
            cases d <;> simp_all
          have hl' := hl.drop off
          rw [hcs] at hl'
          simp only [RepL] at hl'
          obtain ⟨v, vs', he, hv, _⟩ := hl'
          have hget : vs[off]? = some v := by
            have := congrArg (fun l => l[0]?) he
            simpa using this
          exact ⟨v, by simp [part, hagg, hget], hv⟩

theorem sound_field {t : TypeId} {x : Operand} {f : Nat} (ho : o.op = .field t x f) (h : LOp P pr [] o ev m K) : ∃ lv m', K lv m' ∧ OpOk P pr o ev m lv m' := by
  simp only [LOp, ho] at h
  cases htf : tfield P t f <;> simp only [htf] at h
  case some q =>
    obtain ⟨off, ft⟩ := q
    cases hx : ev x <;> simp only [hx] at h
    case agg cs =>
      obtain ⟨lv, hK, hr⟩ := run_part h.2 h.1
      refine ⟨lv, m, hK, OpOk.same fun c a hev hm => ?_⟩
      obtain ⟨fs, fd, hu, hfd, rfl, rfl⟩ : ∃ fs fd, P.underlying t = some (.struct fs) ∧ fs[f]? = some fd ∧ fd.offset = off ∧ fd.type = ft := by
        unfold tfield at htf
        split at htf
        · rename_i fs hu
          cases hf : fs[f]? with
          | none => simp [hf] at htf
          | some fd => simp [hf] at htf; exact ⟨fs, fd, hu, hf, htf.1, htf.2⟩
        · cases htf
      have hv := hev x
      rw [hx] at hv
      simp only [RepV] at hv
      obtain ⟨vs, he, hl⟩ := hv
      obtain ⟨v, hr1, hr2⟩ := hr c vs hl
      exact ⟨v, by simp [execOp, ho, he, Instr.field, run_underlying hu, hfd, asAgg, hr1], hr2⟩

theorem sound_extract {t : Operand} {i : Nat} (ho : o.op = .extract t i) (h : LOp P pr [] o ev m K) : ∃ lv m', K lv m' ∧ OpOk P pr o ev m lv m' := by
  simp only [LOp, ho] at h
  cases hx : ev t <;> simp only [hx] at h
  case tup vs =>
    obtain ⟨x, hx', hK⟩ := h
    refine ⟨_, _, hK, OpOk.same fun c a hev hm => ?_⟩
    have hv := hev t
    rw [hx] at hv
    simp only [RepV] at hv
    obtain ⟨us, he, hl⟩ := hv
    obtain ⟨v, hv1, hv2⟩ := hl.get hx'
    exact ⟨v, by simp [execOp, ho, he, Instr.extract, hv1], hv2⟩

theorem repL_map {c : Cx} {ev : Operand → LV} {a : Act} (hev : ∀ x, RepV c (ev x) (a.eval x)) : ∀ (xs : List Operand), RepL c (xs.map ev) (xs.map a.eval)
  | [] => by simp [RepL]
  | x :: xs => by simp only [List.map_cons, RepL]; exact ⟨_, _, rfl, hev x, repL_map hev xs⟩

theorem sound_makeFunc {f : Fn} {first cap : Array Operand} (ho : o.op = .makeFunc f first cap) (h : LOp P pr [] o ev m K) : ∃ lv m', K lv m' ∧ OpOk P pr o ev m lv m' := by
  simp only [LOp, ho] at h
  cases f <;> simp only [] at h
  case func f =>
    obtain ⟨rfl, hK⟩ := h
    refine ⟨_, _, hK, OpOk.same fun c a hev hm => ?_⟩
    refine ⟨.func (.func f) #[] (cap.toList.map a.eval).toArray, by simp [execOp, ho, Instr.makeFunc]; rw [← Array.toList_map, Array.toArray_toList], ?_⟩
    simp only [RepV]
    exact ⟨_, rfl, repL_map hev _⟩

theorem sound_indexAddr {t : TypeId} {x i : Operand} (ho : o.op = .indexAddr t x i) (h : LOp P pr [] o ev m K) : ∃ lv m', K lv m' ∧ OpOk P pr o ev m lv m' := by
  simp only [LOp, ho] at h
  cases hte : telem P t <;> simp only [hte] at h
  case some e =>
    have hu : P.underlying t = some (.slice e) := by
      unfold telem at hte
      split at hte
      · cases hte; assumption
      · cases hte
    cases hx : ev x <;> simp only [hx] at h
    case lst k xs =>
      cases hi : ev i <;> simp only [hi] at h
      case int ki n =>
        obtain ⟨hok, hk, h0, y, hy, hys, hK⟩ := h
        refine ⟨_, _, hK, OpOk.same fun c a hev hm => ?_⟩
        have hvi := hev i
        rw [hi] at hvi
        simp only [RepV] at hvi
        have hv := hev x
        rw [hx] at hv
        simp only [RepV] at hv
        obtain ⟨ad, cap, he, hcap, hn, hp, hr⟩ := hv
        have hlt : n.toNat < xs.length := (List.getElem?_eq_some_iff.1 hy).1
        rcases hr with rfl | ⟨b, off, vs, rfl, hb, hX, hl, hc, hra⟩
        · simp at hlt
        · obtain ⟨u, hu1, hu2⟩ := hl.get hy
          obtain ⟨f1, f2⟩ := flat_split (k := k) (fun v hv => (hc v hv).1) hu1
          rw [f1] at hra
          have hra' := rangeAt_part hra
          rw [f2] at hra'
          obtain ⟨hul, hu1'⟩ := hu2.cellsOf hys
          refine ⟨.pointer (some ⟨b, off + n.toNat * k, .none⟩), ?_, ?_⟩
          · unfold tok at hok
            cases hie : P.info? e with
            | none => simp [hie] at hok
            | some ie =>
              have hks : k = ie.size := by rw [hk]; simp [tsize, hie]
              have hlt' : n < (xs.length : Int) := by omega
              simp [execOp, ho, he, hvi, Instr.indexAt, asIntOf, run_underlying hu, h0, hlt', sizeOf, typeInfo, hie, Addr.add_mid, hks]
          · simp only [RepV]
            exact ⟨b, _, u.cells.toList, rfl, hb, hX, hul, fun y hy => hu1' y (by simpa using hy), hra'⟩
    case arr id l =>
      cases hi : ev i <;> simp only [hi] at h
      case int ki n =>
        cases hid : m id with
        | none => simp [hid] at h
        | some le =>
          cases le with
          | map _ _ _ => simp [hid] at h
          | nest _ _ _ _ => simp [hid] at h
          | dead => simp [hid] at h
          | box cs => simp [hid] at h
          | arr e' k xs =>
            simp only [hid] at h
            obtain ⟨hok, hl', hk, h0, hlt, hK⟩ := h
            refine ⟨_, _, hK, OpOk.same fun c a hev hm => ?_⟩
            have hvi := hev i
            rw [hi] at hvi
            simp only [RepV] at hvi
            have hv := hev x
            rw [hx] at hv
            obtain ⟨vs, hB, hk0, hown, hl, hc, hp⟩ := arr_now hm hv hid hl'
            rcases hown.2 with ⟨_, h00⟩ | ⟨g, cap, cur, hvv, _⟩
            · omega
            · refine ⟨.pointer (some ⟨g, n.toNat * k, .none⟩), ?_, ?_⟩
              · unfold tok at hok
                cases hie : P.info? e with
                | none => simp [hie] at hok
                | some ie =>
                  have hks : k = ie.size := by rw [hk]; simp [tsize, hie]
                  have hlt' : n < (xs.length : Int) := by omega
                  simp [execOp, ho, hvv, hvi, Instr.indexAt, asIntOf, run_underlying hu, h0, hlt', sizeOf, typeInfo, hie, Addr.add_mid, hks]
              · simp only [RepV]
                exact ⟨rfl, _, k, xs.length, _, hB, by omega, fun _ => ⟨g, by rw [hvv]; rfl, by simp⟩⟩
end ops
end Go.L
