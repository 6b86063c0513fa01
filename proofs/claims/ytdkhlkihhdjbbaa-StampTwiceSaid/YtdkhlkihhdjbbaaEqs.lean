/- == of structs: written by program (eqs.py). -/
import Derived.Test.YtdkhlkihhdjbbaaFacts
import Derived.Test.YtdkhlkihhdjbbaaSh
import Derived.Test.YtdkhlkihhdjbbaaLq
import Derived.KernelRfl
set_option linter.unusedVariables false
set_option linter.unusedSimpArgs false
set_option maxRecDepth 100000
namespace Go.Proofs.Ytdkhlkihhdjbbaa
open Go.L Go.Sh
theorem ae23 (x y : GStamp) : AggEq Try.prog 23 [LV.int .i64 x.Time, LV.int .i64 x.Source, LV.int .i64 x.Seq] [LV.int .i64 y.Time, LV.int .i64 y.Source, LV.int .i64 y.Seq] (decide (x = y)) := by
  refine eqT (by kernel_rfl) rfl rfl (show EqRun Try.prog (9999 + 1) 23 _ _ _ from (eqS (by kernel_rfl) (by kernel_rfl) (eqC (v := (.int .i64 x.Time)) (u := (.int .i64 y.Time)) (by kernel_rfl) (fun w => by kernel_rfl) (fun w => by kernel_rfl) (eqI (by kernel_rfl)) (eqC (v := (.int .i64 x.Source)) (u := (.int .i64 y.Source)) (by kernel_rfl) (fun w => by kernel_rfl) (fun w => by kernel_rfl) (eqI (by kernel_rfl)) (eqC (v := (.int .i64 x.Seq)) (u := (.int .i64 y.Seq)) (by kernel_rfl) (fun w => by kernel_rfl) (fun w => by kernel_rfl) (eqI (by kernel_rfl)) eqN))))) ?_
  rw [Bool.eq_iff_iff]
  obtain ⟨_, _, _⟩ := x; obtain ⟨_, _, _⟩ := y
  simp [GStamp.mk.injEq, and_assoc]
theorem ae50 (x y : GIdentity) : AggEq Try.prog 50 [LV.int .i64 x.Source, LV.int .i64 x.Seq] [LV.int .i64 y.Source, LV.int .i64 y.Seq] (decide (x = y)) := by
  refine eqT (by kernel_rfl) rfl rfl (show EqRun Try.prog (9999 + 1) 50 _ _ _ from (eqS (by kernel_rfl) (by kernel_rfl) (eqC (v := (.int .i64 x.Source)) (u := (.int .i64 y.Source)) (by kernel_rfl) (fun w => by kernel_rfl) (fun w => by kernel_rfl) (eqI (by kernel_rfl)) (eqC (v := (.int .i64 x.Seq)) (u := (.int .i64 y.Seq)) (by kernel_rfl) (fun w => by kernel_rfl) (fun w => by kernel_rfl) (eqI (by kernel_rfl)) eqN)))) ?_
  rw [Bool.eq_iff_iff]
  obtain ⟨_, _⟩ := x; obtain ⟨_, _⟩ := y
  simp [GIdentity.mk.injEq, and_assoc]
end Go.Proofs.Ytdkhlkihhdjbbaa
