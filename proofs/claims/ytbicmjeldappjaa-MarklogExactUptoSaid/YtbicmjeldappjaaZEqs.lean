import Derived.KernelRfl
import Derived.Test.YtbicmjeldappjaaZFacts
import Derived.Test.YtbicmjeldappjaaZSh
import Derived.Test.YtbicmjeldappjaaZLb
set_option linter.unusedVariables false
set_option linter.unusedSimpArgs false
set_option maxRecDepth 100000
namespace Go.Proofs.Ytbicmjeldappjaa
open Go.L Go.Sh
theorem ae45 (x y : Gq56) : AggEq Try.prog 45 [.I x.Time, .I x.Source, .I x.Seq] [.I y.Time, .I y.Source, .I y.Seq] (decide (x = y)) := by
 refine eqT (by kernel_rfl) rfl rfl (show EqRun Try.prog (9999 + 1) 45 _ _ _ from (eqS (by kernel_rfl) (by kernel_rfl) (eqC (v := (.int .i64 x.Time)) (u := (.int .i64 y.Time)) (by kernel_rfl) (fun w => by kernel_rfl) (fun w => by kernel_rfl) (eqI (by kernel_rfl)) (eqC (v := (.int .i64 x.Source)) (u := (.int .i64 y.Source)) (by kernel_rfl) (fun w => by kernel_rfl) (fun w => by kernel_rfl) (eqI (by kernel_rfl)) (eqC (v := (.int .i64 x.Seq)) (u := (.int .i64 y.Seq)) (by kernel_rfl) (fun w => by kernel_rfl) (fun w => by kernel_rfl) (eqI (by kernel_rfl)) eqN))))) ?_
 rw [Bool.eq_iff_iff]
 obtain ⟨_, _, _⟩ := x; obtain ⟨_, _, _⟩ := y
 simp [Gq56.mk.injEq, and_assoc]
theorem ae57 (x y : Int × Int) : AggEq Try.prog 57 [.I x.1, .I x.2] [.I y.1, .I y.2] (decide (x = y)) := by
 refine eqT (by kernel_rfl) rfl rfl (show EqRun Try.prog (9999 + 1) 57 _ _ _ from (eqA2 (e := 3) (v0 := (.int .i64 x.1)) (v1 := (.int .i64 x.2)) (u0 := (.int .i64 y.1)) (u1 := (.int .i64 y.2)) (by kernel_rfl) (fun w => by kernel_rfl) (fun w => by kernel_rfl) (fun w => by kernel_rfl) (fun w => by kernel_rfl) (fun w => by kernel_rfl) (eqI (by kernel_rfl)) (eqI (by kernel_rfl)))) ?_
 rw [Bool.eq_iff_iff]
 obtain ⟨_, _⟩ := x; obtain ⟨_, _⟩ := y
 simp [Prod.mk.injEq, and_assoc]
theorem tm79 : tmap Try.prog 79 = some (57, 82) := by kernel_rfl
theorem tm89 : tmap Try.prog 89 = some (57, 3) := by kernel_rfl
theorem tm90 : tmap Try.prog 90 = some (57, 4) := by kernel_rfl
theorem kok57 : KOk Try.prog 57 (fun v => ∃ x : Int × Int, v = (fun x : Int × Int => Value.agg #[.int .i64 x.1, .int .i64 x.2]) x) := kokS (enc := (fun x : Int × Int => Value.agg #[.int .i64 x.1, .int .i64 x.2])) Try.underlying57 (fun _ _ => rfl) (fun w em x => by kernel_rfl) (fun x y w => eqOf (ae57 x y) rfl rfl w) (fun x => bits_agg (by simp) 9999)
theorem kf57 : KeyF (fun (x : Int × Int) => LV.agg [.I x.1, .I x.2]) (fun v => ∃ x : Int × Int, v = (fun x : Int × Int => Value.agg #[.int .i64 x.1, .int .i64 x.2]) x) := ⟨fun x => ⟨_, rfl, ⟨x, rfl⟩, rfl⟩, fun x y h => by obtain ⟨_, _⟩ := x; obtain ⟨_, _⟩ := y; simpa using h⟩
end Go.Proofs.Ytbicmjeldappjaa
