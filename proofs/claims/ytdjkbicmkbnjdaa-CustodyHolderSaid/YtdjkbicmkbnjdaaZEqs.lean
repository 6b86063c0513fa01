import Derived.KernelRfl
import Derived.Test.YtdjkbicmkbnjdaaZFacts
import Derived.Test.YtdjkbicmkbnjdaaZSh
import Derived.Test.YtdjkbicmkbnjdaaZLb
set_option linter.unusedVariables false
set_option linter.unusedSimpArgs false
set_option maxRecDepth 100000
namespace Go.Proofs.Ytdjkbicmkbnjdaa
open Go.L Go.Sh
theorem ae32 (x y : GStamp) : AggEq Try.prog 32 [.I x.Time, .I x.Source, .I x.Seq] [.I y.Time, .I y.Source, .I y.Seq] (decide (x = y)) := by
  refine eqT (by kernel_rfl) rfl rfl (show EqRun Try.prog (9999 + 1) 32 _ _ _ from (eqS (by kernel_rfl) (by kernel_rfl) (eqC (v := (.int .i64 x.Time)) (u := (.int .i64 y.Time)) (by kernel_rfl) (fun w => by kernel_rfl) (fun w => by kernel_rfl) (eqI (by kernel_rfl)) (eqC (v := (.int .i64 x.Source)) (u := (.int .i64 y.Source)) (by kernel_rfl) (fun w => by kernel_rfl) (fun w => by kernel_rfl) (eqI (by kernel_rfl)) (eqC (v := (.int .i64 x.Seq)) (u := (.int .i64 y.Seq)) (by kernel_rfl) (fun w => by kernel_rfl) (fun w => by kernel_rfl) (eqI (by kernel_rfl)) eqN))))) ?_
  rw [Bool.eq_iff_iff]
  obtain ⟨_, _, _⟩ := x; obtain ⟨_, _, _⟩ := y
  simp [GStamp.mk.injEq, and_assoc]
theorem ae48 (x y : GIdentity) : AggEq Try.prog 48 [.I x.Source, .I x.Seq] [.I y.Source, .I y.Seq] (decide (x = y)) := by
  refine eqT (by kernel_rfl) rfl rfl (show EqRun Try.prog (9999 + 1) 48 _ _ _ from (eqS (by kernel_rfl) (by kernel_rfl) (eqC (v := (.int .i64 x.Source)) (u := (.int .i64 y.Source)) (by kernel_rfl) (fun w => by kernel_rfl) (fun w => by kernel_rfl) (eqI (by kernel_rfl)) (eqC (v := (.int .i64 x.Seq)) (u := (.int .i64 y.Seq)) (by kernel_rfl) (fun w => by kernel_rfl) (fun w => by kernel_rfl) (eqI (by kernel_rfl)) eqN)))) ?_
  rw [Bool.eq_iff_iff]
  obtain ⟨_, _⟩ := x; obtain ⟨_, _⟩ := y
  simp [GIdentity.mk.injEq, and_assoc]
theorem tm74 : tmap Try.prog 74 = some (3, 4) := by kernel_rfl
theorem tm95 : tmap Try.prog 95 = some (32, 3) := by kernel_rfl
theorem kok3 : KOk Try.prog 3 (fun v => ∃ n, v = .int .i64 n) := kokI (by kernel_rfl)
theorem kf3 : KeyF (LV.int .i64) (fun v => ∃ n, v = .int .i64 n) := kfI
theorem kok32 : KOk Try.prog 32 (fun v => ∃ x : GStamp, v = (fun x : GStamp => Value.agg #[.int .i64 x.Time, .int .i64 x.Source, .int .i64 x.Seq]) x) := kokS (enc := (fun x : GStamp => Value.agg #[.int .i64 x.Time, .int .i64 x.Source, .int .i64 x.Seq])) Try.underlying32 (fun _ _ => rfl) (fun w em x => by kernel_rfl) (fun x y w => eqOf (ae32 x y) rfl rfl w) (fun x => bits_agg (by simp) 9999)
theorem kf32 : KeyF GStamp.lv (fun v => ∃ x : GStamp, v = (fun x : GStamp => Value.agg #[.int .i64 x.Time, .int .i64 x.Source, .int .i64 x.Seq]) x) := ⟨fun x => ⟨_, rfl, ⟨x, rfl⟩, rfl⟩, fun x y h => by obtain ⟨_, _, _⟩ := x; obtain ⟨_, _, _⟩ := y; simpa [GStamp.lv] using h⟩
end Go.Proofs.Ytdjkbicmkbnjdaa
