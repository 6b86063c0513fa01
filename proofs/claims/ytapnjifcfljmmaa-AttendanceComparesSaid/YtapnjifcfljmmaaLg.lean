/- A logic over logical memory, part 7: each operation does what part 3 says, the last ones. -/
import Derived.Test.YtapnjifcfljmmaaLf
set_option linter.unusedVariables false
set_option linter.unusedSimpArgs false
namespace Go.L
section ops
variable {P : Program} {pr : Nat → Prop} {o : Oper} {ev : Operand → LV} {m m' : Mem} {lv : LV} {K : LV → Mem → Prop}

theorem elem_of {t e : TypeId} (h : telem P t = some e) : P.underlying t = some (.slice e) := by
  unfold telem at h
  split at h
  · cases h; assumption
  · cases h

theorem sound_slice {t : TypeId} {x : Operand} {lo hi mx : Option Operand} (ho : o.op = .slice t x lo hi mx) (h : LOp P pr [] o ev m K) : ∃ lv m', K lv m' ∧ OpOk P pr o ev m lv m' := by
  simp only [LOp, ho] at h
  obtain ⟨hte, htk, rfl, h⟩ := h
  obtain ⟨e, hte⟩ := Option.isSome_iff_exists.1 hte
  have hu := elem_of hte
  have hinfo : ∃ ie, P.info? e = some ie := by
    simp only [hte, Option.getD_some] at htk
    unfold tok at htk
    cases hi : P.info? e with
    | none => simp [hi] at htk
    | some ie => exact ⟨ie, rfl⟩
  cases hx : ev x <;> simp only [hx] at h
  case nil =>
    obtain ⟨hlo, hhi, hK⟩ := h
    refine ⟨_, _, hK, OpOk.same fun c a hev hm => ?_⟩
    have hv := hev x
    rw [hx] at hv
    simp only [RepV] at hv
    refine ⟨.slice .none 0 0, ?_, by simp [RepV]⟩
    have h1 : ∀ y, lo = some y → a.eval y = .int .i64 0 := fun y hy => by
      subst hy; simp only at hlo; have := hev y; rw [hlo] at this; simpa only [RepV] using this
    have h2 : ∀ y, hi = some y → a.eval y = .int .i64 0 := fun y hy => by
      subst hy; simp only at hhi; have := hev y; rw [hhi] at this; simpa only [RepV] using this
    obtain ⟨ie, hie⟩ := hinfo
    cases lo <;> cases hi <;> simp_all [execOp, Instr.sliceAt, run_underlying hu, Instr.slice, Instr.sliceBounds, Instr.sliceBound, asIntOf, sizeOf, typeInfo]
  case lst k xs =>
    obtain ⟨hk, l, h', hlo, hhi, hlh, hhx, hK⟩ := h
    refine ⟨_, _, hK, OpOk.same fun c a hev hm => ?_⟩
    have hv := hev x
    rw [hx] at hv
    simp only [RepV] at hv
    obtain ⟨ad, cap, he, hcap, hn, hp, hr⟩ := hv
    have h1 : ∀ y, lo = some y → a.eval y = .int .i64 l := fun y hy => by
      subst hy; simp only at hlo; have := hev y; rw [hlo] at this; simpa only [RepV] using this
    have h2 : ∀ y, hi = some y → a.eval y = .int .i64 h' := fun y hy => by
      subst hy; simp only at hhi; have := hev y; rw [hhi] at this; simpa only [RepV] using this
    obtain ⟨ie, hie⟩ := hinfo
    have hks : k = ie.size := by simpa [hte, tsize, hie] using hk
    have hrun : (execOp a.eval o).run P c.w = .ok (.value (.slice (if cap = l then ad else ad.map (·.add (l * ie.size))) (h' - l) (cap - l))) c.w := by
      have g1 : (Instr.sliceBounds true xs.length cap (lo.map a.eval) (hi.map a.eval) .none).run P c.w = .ok (l, h', cap) c.w := by
        have b2 : (h' : Int) ≤ cap := by omega
        have b1 : (l : Int) ≤ h' := by omega
        cases lo <;> cases hi <;> simp_all [Instr.sliceBounds, Instr.sliceBound, asIntOf]
      simp [execOp, ho, he, Instr.sliceAt, run_underlying hu, Instr.slice, g1, sizeOf, typeInfo, hie]
    refine ⟨_, hrun, ?_⟩
    simp only [RepV]
    have hlen : ((xs.take h').drop l).length = h' - l := by simp; omega
    refine ⟨_, cap - l, by rw [hlen], by rw [hlen]; omega, fun h0 => ?_, pureL_drop (pureL_take hp _) _, ?_⟩
    · have : ad = .none := by
        split at h0
        · exact h0
        · simpa using h0
      have := hn this; omega
    · by_cases hem : (xs.take h').drop l = []
      · exact .inl hem
      · right
        have hpos : 0 < h' - l := by rw [← hlen]; exact List.length_pos_iff.2 hem
        rcases hr with rfl | ⟨b, off, vs, rfl, hb, hX, hl, hc, hra⟩
        · simp at hem
        · refine ⟨b, off + l * k, (vs.take h').drop l, ?_, hb, hX, (hl.take h').drop l, fun u hu => hc u (List.mem_of_mem_take (List.mem_of_mem_drop hu)), ?_⟩
          · rw [if_neg (by omega)]; simp [Addr.add_mid, hks]
          · have e1 : vs = vs.take l ++ ((vs.take h').drop l ++ vs.drop h') := by
              rw [← List.append_assoc]
              have : vs.take l = (vs.take h').take l := by rw [List.take_take, Nat.min_eq_left hlh]
              rw [this, List.take_append_drop, List.take_append_drop]
            rw [e1, flat_append, flat_append] at hra
            have := rangeAt_part hra
            rwa [flat_length (k := k) (fun v hv => (hc v (List.mem_of_mem_take hv)).1), List.length_take, Nat.min_eq_left (by have := hl.length; omega)] at this

theorem sound_len {c0 : Call} (ho : o.op = .call c0) (hc : c0.callee = .builtin .len) (h : LOp P pr [] o ev m K) : ∃ lv m', K lv m' ∧ OpOk P pr o ev m lv m' := by
  obtain ⟨cl, args, tys⟩ := c0
  simp only at hc
  subst hc
  simp only [LOp, ho] at h
  split at h
  · rename_i x t hargs htys
    obtain rfl : args = #[x] := by apply Array.ext'; simpa using hargs
    obtain rfl : tys = #[t] := by apply Array.ext'; simpa using htys
    obtain ⟨hte, h⟩ := h
    obtain ⟨e, hte⟩ := Option.isSome_iff_exists.1 hte
    have hu := elem_of hte
    have run : ∀ (a : Act) (w : World) ad n cap, a.eval x = .slice ad n cap → (execOp a.eval o).run P w = .ok (.value (.int .i64 n)) w := by
      intro a w ad n cap he
      simp [execOp, ho, resolve, invoke, builtin, Builtin.len_, he, run_underlying hu, goInt]
    cases hx : ev x <;> simp only [hx] at h
    case nil =>
      refine ⟨_, _, h, OpOk.same fun c a hev hm => ?_⟩
      have hv := hev x
      rw [hx] at hv
      simp only [RepV] at hv
      exact ⟨_, run a c.w _ _ _ hv, by simp [RepV]⟩
    case lst k xs =>
      refine ⟨_, _, h, OpOk.same fun c a hev hm => ?_⟩
      have hv := hev x
      rw [hx] at hv
      simp only [RepV] at hv
      obtain ⟨ad, cap, he, _⟩ := hv
      exact ⟨_, run a c.w _ _ _ he, by simp [RepV]⟩
    case arr id n =>
      obtain ⟨hn, hK⟩ := h
      refine ⟨_, _, hK, OpOk.same fun c a hev hm => ?_⟩
      have hv := hev x
      rw [hx] at hv
      cases hid : m id with
      | none => simp [hid] at hn
      | some le =>
        cases le with
        | map _ _ _ => simp [hid] at hn
        | nest _ _ _ _ => simp [hid] at hn
        | dead => simp [hid] at hn
        | box cs => simp [hid] at hn
        | arr e' k xs =>
          simp only [hid] at hn
          obtain ⟨vs, hB, hk0, hown, hl, hc, hp⟩ := arr_now hm hv hid hn
          obtain ⟨ad, cap, he⟩ := ownsRow_len hown
          exact ⟨_, run a c.w _ _ _ he, by simp [RepV, hn]⟩
  · cases h

theorem sound_call {c0 : Call} {x : Operand} (ho : o.op = .call c0) (hc : c0.callee = .value x) (h : LOp P pr [] o ev m K) : ∃ lv m', K lv m' ∧ OpOk P pr o ev m lv m' := by
  obtain ⟨cl, args, tys⟩ := c0
  simp only at hc
  subst hc
  simp only [LOp, ho] at h
  cases hx : ev x <;> simp only [hx] at h
  case fn f cap =>
    obtain ⟨⟨fn, hf, hname, hbody⟩, lv, mc, mc', hcall, h1, h2, h3, h4, hK⟩ := h
    refine ⟨lv, _, hK, fun c a Q hev hm => ?_⟩
    have hv := hev x
    rw [hx] at hv
    simp only [RepV] at hv
    obtain ⟨us, he, hl⟩ := hv
    have hrun : (execOp a.eval o).run P c.w = .ok (.enter f ((args.toList.map a.eval) ++ us).toArray) c.w := by
      have e1 : Array.map a.eval args ++ us.toArray = ((args.toList.map a.eval) ++ us).toArray := by
        apply Array.ext'; simp
      have hname' : ¬ fn.name = "runtime.NumGoroutine" := by simpa using hname
      have hbody' : ¬ fn.body = .none := fun hn => by rw [hn] at hbody; cases hbody
      simp [execOp, ho, resolve, Deferred.ofValue, he, invoke, callFunc, hf, hname', hbody', e1]
    unfold Oper.wp
    rw [hrun]
    simp only [Oper.upon]
    refine (hcall.frame (m := m) h1 h2 h3 h4 pr c _ hm ((repL_map hev _).append hl)).mono ?_
    rintro en w' ⟨v, c', rfl, rfl, hm', hv', hs⟩
    exact ⟨v, c', rfl, rfl, hv', hm', hs⟩
end ops
end Go.L
