/- A logic over logical memory, part 27: functions with their first arguments; arrays of them. -/
import Derived.Test.YtapnjifcfljmmaaL2
set_option linter.unusedVariables false
set_option linter.unusedSimpArgs false
namespace Go.L
section
variable {P : Program} {N : Nat} {pr : Nat → Prop} {ev : Operand → LV} {m m' : Mem} {d : Option Nat} {x y : Operand} {t ty : TypeId} {pos : String} {af : Array Edge} {gd : Option (Nat × Bool)} {lv : LV}
theorem ok_mfB {f : Nat} {first : List Operand} {fs : List LV} (hv : first.map ev = fs) : OpOk P pr ⟨d, .makeFunc (.func f) first.toArray #[], ty, pos, af, gd⟩ ev m (.bfn f fs) m := by
  subst hv
  refine OpOk.same fun c a hev hm => ?_
  refine ⟨.func (.func f) (first.map a.eval).toArray #[], by simp [execOp, Instr.makeFunc], ?_⟩
  simp only [RepV]
  exact ⟨_, rfl, repL_map hev _⟩
theorem ok_callB {f : Nat} {fs args args' : List LV} {xs : List Operand} {ts : Array TypeId} {ml ml' : List (Nat × LE)} (hx : ev x = .bfn f fs) (hf : ∃ fn, P.funcs[f]? = some fn ∧ (fn.name == "runtime.NumGoroutine") = false ∧ fn.body.isNone = false) (ha : fs ++ xs.map ev = args) (hs : SubL args args') (hc : LCall P f args' (Mem.of ml) lv (Mem.of ml')) (hm : MemIs m ml) (hnew : ∀ p ∈ ml', (ml.any fun q => q.1 == p.1) = true ∨ m p.1 = .none) (hr : keptRefs (args.map fun x => (0, x)) ml = true) :
    OpOkR P pr ⟨d, .call ⟨.value x, xs.toArray, ts⟩, ty, pos, af, gd⟩ ev m lv (m.over (Mem.of ml')) := by
  subst ha
  obtain ⟨lv0, mc, mc', hcall, h1, h2, h3, h4, hK⟩ := LCall.callL (K := fun l mm => l = lv ∧ mm = m.over (Mem.of ml')) (hc.sub hs) hm hnew hr ⟨rfl, rfl⟩
  obtain ⟨rfl, hmm⟩ := hK
  obtain ⟨fn, hf, hname, hbody⟩ := hf
  intro c a Q hev hM
  have hv := hev x (by simp [Op.operands, Call.operands])
  rw [hx] at hv
  simp only [RepV] at hv
  obtain ⟨us, he, hl⟩ := hv
  have hxs : RepL c (xs.map ev) (xs.map a.eval) := RepL.of (by simp) fun j p q hp hq => by
    simp only [List.getElem?_map, Option.map_eq_some_iff] at hp hq
    obtain ⟨z, hz, rfl⟩ := hp
    obtain ⟨z', hz', rfl⟩ := hq
    rw [hz] at hz'; cases hz'
    exact hev z (by simp [Op.operands, Call.operands, List.mem_of_getElem? hz])
  have hrun : (execOp a.eval ⟨d, .call ⟨.value x, xs.toArray, ts⟩, ty, pos, af, gd⟩).run P c.w = .ok (.enter f (us ++ xs.map a.eval).toArray) c.w := by
    have e1 : us.toArray ++ Array.map a.eval xs.toArray = (us ++ xs.map a.eval).toArray := by
      apply Array.ext'; simp
    have hname' : ¬ fn.name = "runtime.NumGoroutine" := by simpa using hname
    have hbody' : ¬ fn.body = .none := fun hn => by rw [hn] at hbody; cases hbody
    simp [execOp, resolve, Deferred.ofValue, he, invoke, callFunc, hf, hname', hbody', e1]
  unfold Oper.wp
  rw [hrun]
  simp only [Oper.upon]
  refine (hcall.frame (m := m) h1 h2 h3 h4 pr c _ hM (hl.append hxs)).mono ?_
  rintro en w' ⟨v, c', rfl, rfl, hm', hv', hs⟩
  rw [hmm] at hm'
  exact ⟨v, c', rfl, rfl, hv', hm', hs⟩
/-- the address of an element of an array in a box, by its operands alone -/
theorem ok_ixPR {n el id : Nat} {k : IntKind} {u : Int} (ht : tarr P t = some (n, el)) (hn : Nat.ble 2 n = true) (hx : ev x = .ptr id 0) (hy : ev y = .int k u) (h0 : 0 ≤ u) (h1 : u.toNat < n) :
    OpOkR P pr ⟨d, .indexAddr t x y, ty, pos, af, gd⟩ ev m (.ptr id u.toNat) m := by
  obtain ⟨it, z, ie, hu, hi, hz, hie, hzs, hs1⟩ := tarr_of ht
  refine OpOkR.value fun c a hev hm => ?_
  have e1 := hev x (by simp [Op.operands])
  have e2 := hev y (by simp [Op.operands])
  rw [hx] at e1; rw [hy] at e2
  simp only [RepV] at e1 e2
  obtain ⟨b, nn, hB, hv⟩ := e1
  have hlt : u < (n : Int) := by omega
  have hn2 : ¬ n ≤ 1 := by have := Nat.le_of_ble_eq_true hn; omega
  refine ⟨.pointer (some ⟨b, u.toNat, .none⟩), c, ?_, ?_, hm, Step.refl pr c⟩
  · simp [execOp, Instr.indexAt, asIntOf, e2, hv, Instr.sureAddr, run_underlying hu, sizeOf, typeInfo, hie, hs1, h0, hlt, hn2, Addr.add_mid]
  · simp only [RepV]; exact ⟨b, nn, hB, rfl⟩
/-- an array whose first element is its zero -/
theorem ok_buildA1 {ps : List (Nat × Operand)} {n el : Nat} {xs zc : List LV} {z0 : LV} (ht : tarr P t = some (n + 1, el)) (hz0 : tzero P t = some (.agg zc)) (hzc : zc[0]? = some z0) (hp : ps.map (·.1) = List.range' 1 n) (hx : (ps.map fun p => ev p.2) = xs) (hsc : xs.all LV.scalar = true) :
    OpOk P pr ⟨d, .build t ps.toArray, ty, pos, af, gd⟩ ev m (.agg (z0 :: xs)) m := by
  obtain ⟨it, z, ie, hu, hi, hz, hie, hzs, hs1⟩ := tarr_of ht
  subst hx
  refine OpOk.same fun c a hev hm => ?_
  let vs := ps.map fun p => a.eval p.2
  have hplen : ps.length = n := by have := congrArg List.length hp; simpa using this
  have hvl : vs.length = n := by simp [vs, hplen]
  have hv1 : ∀ v ∈ vs, v.cells = #[v] := fun v hv => by
    obtain ⟨p, hp', rfl⟩ := List.mem_map.1 hv
    rw [List.all_eq_true] at hsc
    exact cells1 (hev p.2) (hsc _ (List.mem_map.2 ⟨p, hp', rfl⟩))
  have hzz : ofV z = .agg zc := by
    simp only [tzero, hi, hz] at hz0
    split at hz0
    · simpa using hz0
    · cases hz0
  have hzl : RepL c zc z.cells.toList := by have := repL_ofV_cells c z; rw [hzz] at this; exact this
  obtain ⟨w0, hw0, hr0⟩ := hzl.get hzc
  have hparts : (ps.toArray.map fun (p : Nat × Operand) => (p.1, a.eval p.2)).toList = (vs.zipIdx 1).map fun x => (x.2, x.1) := by
    apply List.ext_getElem?
    intro j
    have hj := congrArg (fun l => l[j]?) hp
    simp only [List.getElem?_map] at hj
    simp only [Array.toList_map, List.getElem?_map, List.getElem?_zipIdx, vs]
    cases hq : ps[j]? with
    | none => simp [hq]
    | some p =>
      rw [hq] at hj
      have hjl : j < n := by rw [← hplen]; exact (List.getElem?_eq_some_iff.1 hq).1
      rw [List.getElem?_range' hjl] at hj
      simp at hj
      simp [hq, hj]
  obtain ⟨r, hr, hrs, hrk⟩ := Great.fill_dense (s := 1) (by omega) vs 1 z.cells (fun v hv => by rw [hv1 v hv]; rfl) (by simp [hvl, hzs]; omega)
  have hrl : r.toList = w0 :: vs := by
    apply List.ext_getElem?
    intro j
    rw [Array.getElem?_toList, hrk j]
    simp only [Nat.mul_one, Nat.div_one, Nat.mod_one, hvl]
    cases j with
    | zero => rw [if_neg (by omega)]; simpa using hw0
    | succ j =>
      by_cases hj : j < n
      · rw [if_pos (by omega)]
        have hj' : j < vs.length := by omega
        simp only [Nat.add_sub_cancel, List.getElem?_cons_succ]
        rw [List.getElem?_eq_getElem hj']
        simp [hv1 _ (List.getElem_mem hj')]
      · rw [if_neg (by omega), List.getElem?_cons_succ, List.getElem?_eq_none (by omega)]
        simp; omega
  have hb : P.built t (ps.toArray.map fun p => (p.1, a.eval p.2)).toList = some r := by
    unfold Program.built
    simp only [hi, hu, hz, hie, hs1, hparts]
    exact hr
  have hrun := run_build (P := P) c.w t _ r hb
  refine ⟨.agg r, by simp only [execOp, Sem.run_bind, hrun]; first | rfl | simp [Result.andThen], ?_⟩
  simp only [RepV]
  refine ⟨r.toList, by simp, ?_⟩
  rw [hrl]
  simp only [RepL]
  refine ⟨w0, vs, rfl, hr0, ?_⟩
  have h := repL_map hev (ps.map (·.2))
  simpa [vs, List.map_map, Function.comp_def] using h
end
end Go.L
