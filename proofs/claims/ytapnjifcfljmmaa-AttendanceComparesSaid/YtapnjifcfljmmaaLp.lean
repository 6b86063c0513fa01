/- A logic over logical memory, part 15: slices.SortFunc over a row of ints as a plain function. -/
import Derived.Test.YtapnjifcfljmmaaLn
import Derived.Test.YtapnjifcfljmmaaLo
set_option linter.unusedVariables false
set_option linter.unusedSimpArgs false
namespace Go.L
open Go.Sort Go.Proofs Go.Shelf

theorem enters_of {P : Program} {g : Nat} (h : ∃ fn, P.funcs[g]? = some fn ∧ (fn.name == "runtime.NumGoroutine") = false ∧ fn.body.isNone = false) (args : Array Value) (w : World) : (callFunc g args).run P w = .ok (.enter g args) w := by
  obtain ⟨fn, h1, h2, h3⟩ := h
  have h2' : ¬ fn.name = "runtime.NumGoroutine" := by simpa using h2
  have h3' : ¬ fn.body = Option.none := fun hn => by rw [hn] at h3; cases h3
  simp [callFunc, h1, h2', h3']
theorem swo_of {xs : List Int} {cf : Int → Int → Int} (h1 : ∀ x ∈ xs, ¬ cf x x < 0) (h2 : ∀ x ∈ xs, ∀ y ∈ xs, ∀ z ∈ xs, cf x y < 0 → cf y z < 0 → cf x z < 0) (h3 : ∀ x ∈ xs, ∀ y ∈ xs, ∀ z ∈ xs, ¬ cf x y < 0 → ¬ cf y z < 0 → ¬ cf x z < 0) : SWO (ltOf fun a b : {x // x ∈ xs} => cf a.1 b.1) := by
  constructor
  · intro x; simp only [ltOf, decide_eq_false_iff_not]; exact h1 x.1 x.2
  · intro x y z; simp only [ltOf, decide_eq_true_eq]; exact h2 x.1 x.2 y.1 y.2 z.1 z.2
  · intro x y z; simp only [ltOf, decide_eq_false_iff_not]; exact h3 x.1 x.2 y.1 y.2 z.1 z.2
theorem sortI_ok {P : Program} {ρ : Ren} (L : SlLaysF.n6 P ρ) {f : Nat} (hf : ρ.f 6 = f) {c : Int → Int → Option Int} {xs r : List Int} {g : Nat} {cap : List LV} (hg : ∃ fn, P.funcs[g]? = some fn ∧ (fn.name == "runtime.NumGoroutine") = false ∧ fn.body.isNone = false) (hcap : LV.pureL cap = true)
    (hcmp : ∀ x y q, c x y = some q → LCall P g ([.int .i64 x, .int .i64 y] ++ cap) (Mem.of []) (.int .i64 q) (Mem.of [])) (id e : Nat) (h : sortF c xs = some r) :
    LCall P f [.arr id xs.length, .fn g cap] (Mem.of [(id, .arr e 1 (xs.map (LV.int .i64)))]) (.tup []) (Mem.of [(id, .arr e 1 (r.map (LV.int .i64)))]) := by
  subst hf
  obtain ⟨hp, hn, cf, hc, h1, h2, h3, hs⟩ := sortF_to h
  have hr : ∀ x ∈ r, x ∈ xs := fun x hx => hp.mem_iff.1 hx
  have key := sortInts L (fun x : {x // x ∈ xs} => x.1) (fun a b => cf a.1 b.1) (swo_of h1 h2 h3) g cap hcap (enters_of hg)
    (fun x y => hcmp _ _ _ (hc x.1 x.2 y.1 y.2)) (xs.pmap Subtype.mk fun _ h => h) (r.pmap Subtype.mk hr) (hp.pmap _) ?_ (by simpa using hn) id e
  · simp only [List.map_pmap, List.pmap_eq_map, List.length_pmap] at key
    exact key
  · refine (List.pairwise_pmap _).2 ?_
    exact hs.imp fun {a b} h _ _ => h
end Go.L
