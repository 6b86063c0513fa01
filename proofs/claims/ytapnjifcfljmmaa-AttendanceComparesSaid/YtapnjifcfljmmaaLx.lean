/- A logic over logical memory, part 22: arrays whose elements are of one cell. -/
import Derived.Test.YtapnjifcfljmmaaLw
set_option linter.unusedVariables false
set_option linter.unusedSimpArgs false
namespace Go.L
section
variable {P : Program} {N : Nat} {pr : Nat → Prop} {ops : Array Oper} {e : Env} {m m' : Mem} {ev : Operand → LV} {o : Oper} {lv : LV} {l : List Oper} {KE : Env → Mem → Prop}
/-- an array type: its length and its element type, of one cell -/
def tarr (P : Program) (t : TypeId) : Option (Nat × Nat) := match P.underlying t, P.info? t with
  | some (.array n e), some it => match it.zero, P.info? e with
    | some z, some ie => if z.cells.size = n ∧ ie.size = 1 then some (n, e) else .none
    | _, _ => .none
  | _, _ => .none
theorem tarr_of {t n e : Nat} (h : tarr P t = some (n, e)) : ∃ it z ie, P.underlying t = some (.array n e) ∧ P.info? t = some it ∧ it.zero = some z ∧ P.info? e = some ie ∧ z.cells.size = n ∧ ie.size = 1 := by
  unfold tarr at h
  split at h
  · rename_i n' e' it hu hi
    split at h
    · rename_i z ie hz hie
      split at h
      · rename_i hc
        simp only [Option.some.injEq, Prod.mk.injEq] at h
        obtain ⟨rfl, rfl⟩ := h
        exact ⟨it, z, ie, hu, hi, hz, hie, hc.1, hc.2⟩
      · cases h
    · cases h
  · cases h
theorem cells1 {c : Cx} {x : LV} {v : Value} (h : RepV c x v) (hs : x.scalar = true) : v.cells = #[v] := by
  have := oneCell_of_scalar hs h
  cases v <;> first | rfl | simp [Value.oneCell'] at this
theorem flat1 : ∀ {vs : List Value}, (∀ v ∈ vs, v.cells = #[v]) → flat vs = vs
  | [], _ => rfl
  | v :: vs, h => by
    have h1 := h v (by simp)
    have h2 := flat1 (vs := vs) fun u hu => h u (by simp [hu])
    simp only [flat, List.flatMap_cons] at h2 ⊢
    rw [h1, h2]; rfl
theorem ok_buildA {d : Option Nat} {t ty : TypeId} {pos : String} {af : Array Edge} {g : Option (Nat × Bool)} {ps : List (Nat × Operand)} {n el : Nat} {xs : List LV} (ht : tarr P t = some (n, el)) (hp : ps.map (·.1) = List.range n) (hx : (ps.map fun p => ev p.2) = xs) (hsc : xs.all LV.scalar = true) :
    OpOk P pr ⟨d, .build t ps.toArray, ty, pos, af, g⟩ ev m (.agg xs) m := by
  obtain ⟨it, z, ie, hu, hi, hz, hie, hzs, hs1⟩ := tarr_of ht
  subst hx
  refine OpOk.same fun c a hev hm => ?_
  let vs := ps.map fun p => a.eval p.2
  have hplen : ps.length = n := by have := congrArg List.length hp; simpa using this
  have hvl : vs.length = n := by simp [vs, hplen]
  have hv1 : ∀ v ∈ vs, v.cells = #[v] := fun v hv => by
    obtain ⟨p, hp', rfl⟩ := List.mem_map.1 hv
    rw [List.all_eq_true] at hsc
    exact cells1 (hev p.2) (hsc _ (List.mem_map.2 ⟨p, hp', rfl⟩))
  have hparts : (ps.toArray.map fun (p : Nat × Operand) => (p.1, a.eval p.2)).toList = (vs.zipIdx 0).map fun x => (x.2, x.1) := by
    apply List.ext_getElem?
    intro j
    have hj := congrArg (fun l => l[j]?) hp
    simp only [List.getElem?_map, List.getElem?_range] at hj
    simp only [Array.toList_map, List.getElem?_map, List.getElem?_zipIdx, vs, Nat.zero_add]
    cases hq : ps[j]? with
    | none => simp [hq]
    | some p =>
      rw [hq] at hj
      have hjl : j < n := by rw [← hplen]; exact (List.getElem?_eq_some_iff.1 hq).1
      rw [List.getElem?_range hjl] at hj
      simp at hj
      simp [hq, hj]
  obtain ⟨r, hr, hrs, hrk⟩ := Great.fill_dense (s := 1) (by omega) vs 0 z.cells (fun v hv => by rw [hv1 v hv]; rfl) (by simp [hvl, hzs])
  have hrl : r.toList = vs := by
    apply List.ext_getElem?
    intro j
    rw [Array.getElem?_toList, hrk j]
    simp only [Nat.zero_mul, Nat.zero_le, true_and, Nat.zero_add, Nat.sub_zero, hvl, Nat.mul_one, Nat.div_one, Nat.mod_one]
    by_cases hj : j < n
    · rw [if_pos hj]
      have hj' : j < vs.length := by omega
      rw [List.getElem?_eq_getElem hj']
      simp [hv1 _ (List.getElem_mem hj')]
    · rw [if_neg hj, List.getElem?_eq_none (by omega)]
      simp; omega
  have hb : P.built t (ps.toArray.map fun p => (p.1, a.eval p.2)).toList = some r := by
    unfold Program.built
    simp only [hi, hu, hz, hie, hs1, hparts]
    exact hr
  have hrun := run_build (P := P) c.w t _ r hb
  refine ⟨.agg r, by simp only [execOp, Sem.run_bind, hrun]; first | rfl | simp [Result.andThen], ?_⟩
  simp only [RepV]
  exact ⟨r.toList, by simp, by rw [hrl]; have h := repL_map hev (ps.map (·.2)); simpa [vs, List.map_map, Function.comp_def] using h⟩
/-- the address of an element of an array in a box -/
theorem ok_ixP {d : Option Nat} {x y : Operand} {t ty : TypeId} {pos : String} {af : Array Edge} {g : Option (Nat × Bool)} {n el id : Nat} {k : IntKind} {u : Int} (ht : tarr P t = some (n, el)) (hn : Nat.ble 2 n = true) (hx : ev x = .ptr id 0) (hy : ev y = .int k u) (h0 : 0 ≤ u) (h1 : u.toNat < n) :
    OpOk P pr ⟨d, .indexAddr t x y, ty, pos, af, g⟩ ev m (.ptr id u.toNat) m := by
  obtain ⟨it, z, ie, hu, hi, hz, hie, hzs, hs1⟩ := tarr_of ht
  refine OpOk.same fun c a hev hm => ?_
  have e1 := hev x
  have e2 := hev y
  rw [hx] at e1; rw [hy] at e2
  simp only [RepV] at e1 e2
  obtain ⟨b, nn, hB, hv⟩ := e1
  have hlt : u < (n : Int) := by omega
  have hn2 : ¬ n ≤ 1 := by have := Nat.le_of_ble_eq_true hn; omega
  refine ⟨.pointer (some ⟨b, u.toNat, .none⟩), ?_, ?_⟩
  · simp [execOp, Instr.indexAt, asIntOf, e2, hv, Instr.sureAddr, run_underlying hu, sizeOf, typeInfo, hie, hs1, h0, hlt, hn2, Addr.add_mid]
  · simp only [RepV]; exact ⟨b, nn, hB, rfl⟩
/-- the address of an element of an array that nobody writes -/
theorem ok_ixS {α : Type} {f : α → LV} {ys : List α} {z : α} {d : Option Nat} {x y : Operand} {t ty : TypeId} {pos : String} {af : Array Edge} {g : Option (Nat × Bool)} {n el : Nat} {k : IntKind} {u : Int} (ht : tarr P t = some (n, el)) (hn : Nat.ble 2 n = true) (hx : ev x = .sptr (ys.map f)) (hy : ev y = .int k u) (hlen : ys.length = n) (hz : idx ys u = some z) :
    OpOk P pr ⟨d, .indexAddr t x y, ty, pos, af, g⟩ ev m (.sptr [f z]) m := by
  obtain ⟨it, zz, ie, hu, hi, hzz, hie, hzs, hs1⟩ := tarr_of ht
  obtain ⟨h0, h2⟩ := idxOk hz
  have h1 : u.toNat < n := by rw [← hlen]; exact (List.getElem?_eq_some_iff.1 h2).1
  refine OpOk.same fun c a hev hm => ?_
  have e1 := hev x
  have e2 := hev y
  rw [hx] at e1; rw [hy] at e2
  simp only [RepV] at e1 e2
  obtain ⟨b, off, vs, hv, hb, hX, hl, hone, hra⟩ := e1
  have hlt : u < (n : Int) := by omega
  have hn2 : ¬ n ≤ 1 := by have := Nat.le_of_ble_eq_true hn; omega
  obtain ⟨w, hw1, hw2⟩ := hl.get (i := u.toNat) (x := f z) (by simp [h2])
  refine ⟨.pointer (some ⟨b, off + u.toNat, .none⟩), ?_, ?_⟩
  · simp [execOp, Instr.indexAt, asIntOf, e2, hv, Instr.sureAddr, run_underlying hu, sizeOf, typeInfo, hie, hs1, h0, hlt, hn2, Addr.add_mid]
  · simp only [RepV]
    refine ⟨b, off + u.toNat, [w], rfl, hb, hX, ?_, ?_, ?_⟩
    · simp only [RepL]; exact ⟨w, [], rfl, hw2, rfl⟩
    · intro y hy; simp at hy; subst hy; exact hone _ (List.mem_of_getElem? hw1)
    · intro j v hj
      cases j with
      | zero => simp at hj; subst hj; simpa using hra u.toNat w hw1
      | succ j => simp at hj
theorem ixB {α : Type} {f : α → LV} {ys : List α} {u : Int} {z : α} (h : idx ys u = some z) : Nat.ble u.toNat (ys.map f).length = true := by
  have := idxOk h
  obtain ⟨_, h2⟩ := this
  have := (List.getElem?_eq_some_iff.1 h2).1
  exact Nat.ble_eq_true_of_le (by simp; omega)
theorem ixC {α : Type} {f : α → LV} {ys : List α} {u : Int} {z : α} (h : idx ys u = some z) : (ys.map f).drop u.toNat = f z :: (ys.map f).drop (u.toNat + 1) := by
  obtain ⟨_, h2⟩ := idxOk h
  obtain ⟨h3, h4⟩ := List.getElem?_eq_some_iff.1 h2
  rw [List.drop_eq_getElem_cons (by simpa using h3)]
  simp [h4]
theorem ixN {α : Type} {ys : List α} {u : Int} {z : α} (h : idx ys u = some z) : 0 ≤ u ∧ u.toNat < ys.length := by
  obtain ⟨h1, h2⟩ := idxOk h
  exact ⟨h1, (List.getElem?_eq_some_iff.1 h2).1⟩
end
end Go.L
