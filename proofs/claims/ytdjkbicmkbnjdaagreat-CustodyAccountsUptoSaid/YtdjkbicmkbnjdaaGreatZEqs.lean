import Derived.KernelRfl
import Derived.Test.YtdjkbicmkbnjdaaGreatZFacts
import Derived.Test.YtdjkbicmkbnjdaaGreatZSh
import Derived.Test.YtdjkbicmkbnjdaaGreatZLb
set_option linter.unusedVariables false
set_option linter.unusedSimpArgs false
set_option maxRecDepth 100000
namespace Go.Proofs.YtdjkbicmkbnjdaaGreat
open Go.L Go.Sh
theorem ae50 (x y : Gq3) : AggEq Tryz.prog 50 [.I x.Time, .I x.Source, .I x.Seq] [.I y.Time, .I y.Source, .I y.Seq] (decide (x = y)) := by
 refine eqT (by kernel_rfl) rfl rfl (show EqRun Tryz.prog (9999 + 1) 50 _ _ _ from (eqS (by kernel_rfl) (by kernel_rfl) (eqC (v := (.int .i64 x.Time)) (u := (.int .i64 y.Time)) (by kernel_rfl) (fun w => by kernel_rfl) (fun w => by kernel_rfl) (eqI (by kernel_rfl)) (eqC (v := (.int .i64 x.Source)) (u := (.int .i64 y.Source)) (by kernel_rfl) (fun w => by kernel_rfl) (fun w => by kernel_rfl) (eqI (by kernel_rfl)) (eqC (v := (.int .i64 x.Seq)) (u := (.int .i64 y.Seq)) (by kernel_rfl) (fun w => by kernel_rfl) (fun w => by kernel_rfl) (eqI (by kernel_rfl)) eqN))))) ?_
 rw [Bool.eq_iff_iff]
 obtain ⟨_, _, _⟩ := x; obtain ⟨_, _, _⟩ := y
 simp [Gq3.mk.injEq, and_assoc]
theorem tm69 : tmap Tryz.prog 69 = some (3, 4) := by kernel_rfl
theorem tm108 : tmap Tryz.prog 108 = some (50, 3) := by kernel_rfl
theorem kok3 : KOk Tryz.prog 3 (fun v => ∃ n, v = .int .i64 n) := kokI (by kernel_rfl)
theorem kf3 : KeyF (LV.int .i64) (fun v => ∃ n, v = .int .i64 n) := kfI
theorem kok50 : KOk Tryz.prog 50 (fun v => ∃ x : Gq3, v = (fun x : Gq3 => Value.agg #[.int .i64 x.Time, .int .i64 x.Source, .int .i64 x.Seq]) x) := kokS (enc := (fun x : Gq3 => Value.agg #[.int .i64 x.Time, .int .i64 x.Source, .int .i64 x.Seq])) Tryz.underlying50 (fun _ _ => rfl) (fun w em x => by kernel_rfl) (fun x y w => eqOf (ae50 x y) rfl rfl w) (fun x => bits_agg (by simp) 9999)
theorem kf50 : KeyF Gq3.lv (fun v => ∃ x : Gq3, v = (fun x : Gq3 => Value.agg #[.int .i64 x.Time, .int .i64 x.Source, .int .i64 x.Seq]) x) := ⟨fun x => ⟨_, rfl, ⟨x, rfl⟩, rfl⟩, fun x y h => by obtain ⟨_, _, _⟩ := x; obtain ⟨_, _, _⟩ := y; simpa [Gq3.lv] using h⟩
end Go.Proofs.YtdjkbicmkbnjdaaGreat
