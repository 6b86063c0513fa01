/- A logic over logical memory, part 17: from a contract to a law's row. -/
import Derived.Test.YtapnjifcfljmmaaLt
import Derived.Below
set_option linter.unusedVariables false
namespace Go.L
open Go.RowKit
abbrev cx0 (w : World) : Cx := ⟨w, fun _ => .none, fun _ => False⟩
theorem rpN {c : Cx} : RepL c [] [] := by simp [RepL]
theorem rpC {c : Cx} {x : LV} {v : Value} {xs : List LV} {vs : List Value} (h : RepV c x v) (hr : RepL c xs vs) : RepL c (x :: xs) (v :: vs) := by simp only [RepL]; exact ⟨v, vs, rfl, h, hr⟩
theorem rpI {c : Cx} {k : IntKind} {n : Int} : RepV c (.int k n) (.int k n) := by simp [RepV]
theorem rpB {c : Cx} {b : Bool} : RepV c (.bool b) (.bool b) := by simp [RepV]
theorem noX (w : World) (b : Nat) : ¬ (cx0 w).X b := by
  rintro (h | ⟨_, _, h, _⟩)
  · exact h
  · cases h
theorem repInts {c : Cx} {k : IntKind} : ∀ (zs : List Int), RepL c (zs.map (LV.int k)) (zs.map (Value.int k))
  | [] => by simp [RepL]
  | z :: zs => rpC rpI (repInts zs)
theorem flatInts {k : IntKind} : ∀ (zs : List Int), flat (zs.map (Value.int k)) = zs.map (Value.int k)
  | [] => rfl
  | z :: zs => by
    have := flatInts (k := k) zs
    simp only [flat, List.map_cons, List.flatMap_cons, Value.cells] at this ⊢
    rw [this]; rfl
/-- a slice of ints that came in -/
theorem rpR {k : IntKind} {w : World} {a : Option Addr} {len cap : Nat} {zs : List Int} (h : (a = .none ∧ len = 0 ∧ cap = 0 ∧ zs = []) ∨ ∃ x, a = some x ∧ len ≤ cap ∧ cap ≤ maxLen ∧ zs.length = cap ∧ (∀ i, i < zs.length → w.cell? (x.add i) = some (.int k (zs.getD i 0))) ∧ ∀ n ∈ zs, (Lit.int k n).wf = true) :
    RepV (cx0 w) (.lst 1 (List.map (LV.int k) (zs.take len))) (.slice a len cap) := by
  rcases h with ⟨rfl, rfl, rfl, rfl⟩ | ⟨x, rfl, hl, hm, hz, hcell, _⟩
  · simp only [RepV]
    exact ⟨.none, 0, rfl, Nat.le_refl _, fun _ => rfl, rfl, .inl rfl⟩
  · simp only [RepV]
    have hlen : (List.map (LV.int k) (zs.take len)).length = len := by simp; omega
    refine ⟨some x, cap, by rw [hlen], by omega, (fun h => by cases h), pureL_iff.2 fun y hy => ?_, ?_⟩
    · obtain ⟨n, _, rfl⟩ := List.mem_map.1 hy; rfl
    · by_cases h0 : len = 0
      · left; subst h0; simp
      · right
        obtain ⟨b, off, spot⟩ := x
        have hc := hcell 0 (by omega)
        have hspot : spot = .none := by simpa [Addr.add] using World.cell?_spot hc
        subst hspot
        refine ⟨b, off, (zs.take len).map (Value.int k), rfl, ?_, noX w b, repInts _, ?_, ?_⟩
        · by_cases hlt : b < w.heap.size
          · exact hlt
          · have : w.heap[b]? = .none := by simp; omega
            simp [World.cell?, Addr.add, this] at hc
        · intro u hu
          obtain ⟨n, _, rfl⟩ := List.mem_map.1 hu
          exact ⟨rfl, fun y hy => by simp [Value.cells] at hy; subst hy; rfl⟩
        · rw [flatInts]
          intro j v hv
          simp only [List.getElem?_map, List.getElem?_take] at hv
          split at hv
          · rename_i hj
            have hj2 : j < zs.length := by omega
            have := hcell j hj2
            simp [hj2] at hv
            have hadd : (Addr.mk b off .none).add j = Addr.mk b (off + j) .none := by
              simp only [Addr.add]; split
              · rename_i h; subst h; rfl
              · rfl
            rw [hadd] at this
            rw [this, ← hv]; simp [hj2]
          · cases hv
theorem lawWalk {P : Program} {f : Nat} {args : List LV} (h : LCall P f args (Mem.of []) (.bool true) (Mem.of [])) (w : World) (vs : List Value) (ha : RepL (cx0 w) args vs) :
    Calls P f vs.toArray w fun e w' => e = .returned (.bool true) ∧ Below w.heap.size w w' := by
  refine (PCall.calls h w vs ha).mono ?_
  rintro en w' ⟨⟨v, c', rfl, rfl, hv⟩, hb⟩
  simp only [RepV] at hv
  subst hv
  exact ⟨rfl, hb⟩
end Go.L
