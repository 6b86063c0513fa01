/- A logic over logical memory, part 16: '==' of structs and arrays, field by field. -/
import Derived.Test.YtapnjifcfljmmaaLt
import Derived.Laws.StructEq
set_option linter.unusedVariables false
set_option linter.unusedSimpArgs false
namespace Go.L
variable {P : Program} {d : Nat} {t : TypeId}
def EqRun (P : Program) (d : Nat) (t : TypeId) (v u : Value) (b : Bool) : Prop := ∀ w, (Op.equalIn d t v u).run P w = .ok b w
def EqFs (P : Program) (d : Nat) (xs ys : Array Value) (fs : List Field) (b : Bool) : Prop := ∀ w, (Op.eqFields d xs ys fs).run P w = .ok b w
theorem eqI {k : IntKind} {a b : Int} (h : P.underlying t = some (.int k)) : EqRun P (d + 1) t (.int k a) (.int k b) (a == b) := fun w => run_equalIn_int w d t k k a b h
theorem eqB {a b : Bool} (h : P.underlying t = some .bool) : EqRun P (d + 1) t (.bool a) (.bool b) (a == b) := fun w => run_equalIn_bool w d t a b h
theorem eqS {xs ys : Array Value} {b : Bool} (hS : P.underlying t = some (.struct (P.fieldsOf t))) (hp : P.stoodInHeld t = false) (h : EqFs P d xs ys (P.fieldsOf t).toList b) : EqRun P (d + 1) t (.agg xs) (.agg ys) b := fun w => (run_equalIn_agg w d t xs ys hS hp).trans (h w)
theorem eqN {xs ys : Array Value} : EqFs P d xs ys [] true := fun w => by simp [Op.eqFields]
theorem eqC {xs ys : Array Value} {f : Field} {fs : List Field} {v u : Value} {b c : Bool} (hn : (f.name != "_") = true) (hv : ∀ w, (part f.type xs f.offset).run P w = .ok v w) (hu : ∀ w, (part f.type ys f.offset).run P w = .ok u w) (he : EqRun P d f.type v u b) (hr : EqFs P d xs ys fs c) : EqFs P d xs ys (f :: fs) (b && c) := fun w => by
  have hn' : f.name ≠ "_" := by simpa using hn
  simp only [Op.eqFields, hn', ne_eq, not_false_eq_true, if_true, Sem.run_bind, hv, hu, Result.andThen_ok, he w, Sem.run_ite]
  cases b with
  | false => simp
  | true => simp [hr w]
theorem eqT {xs ys : List LV} {vs us : List Value} {b c : Bool} (hg : P.eqGuardType P.depth t = false) (hx : exactL xs = some vs) (hy : exactL ys = some us) (h : EqRun P Op.maxDepth t (.agg vs.toArray) (.agg us.toArray) b) (hc : b = c) : AggEq P t xs ys c := ⟨hg, vs, us, hx, hy, fun w => hc ▸ h w⟩
end Go.L
