/- == of structs: written by program (eqs.py). -/
import Derived.Test.YtapnjifcfljmmaaFacts
import Derived.Test.YtapnjifcfljmmaaSh
import Derived.Test.YtapnjifcfljmmaaLq
import Derived.Test.YtapnjifcfljmmaaLw
import Derived.KernelRfl
set_option linter.unusedVariables false
set_option linter.unusedSimpArgs false
set_option maxRecDepth 100000
namespace Go.Proofs.Ytapnjifcfljmmaa
open Go.L Go.Sh
theorem ae31 (x y : GStamp) : AggEq Try.prog 31 [LV.int .i64 x.Time, LV.int .i64 x.Source, LV.int .i64 x.Seq] [LV.int .i64 y.Time, LV.int .i64 y.Source, LV.int .i64 y.Seq] (decide (x = y)) := by
  refine eqT (by kernel_rfl) rfl rfl (show EqRun Try.prog (9999 + 1) 31 _ _ _ from (eqS (by kernel_rfl) (by kernel_rfl) (eqC (v := (.int .i64 x.Time)) (u := (.int .i64 y.Time)) (by kernel_rfl) (fun w => by kernel_rfl) (fun w => by kernel_rfl) (eqI (by kernel_rfl)) (eqC (v := (.int .i64 x.Source)) (u := (.int .i64 y.Source)) (by kernel_rfl) (fun w => by kernel_rfl) (fun w => by kernel_rfl) (eqI (by kernel_rfl)) (eqC (v := (.int .i64 x.Seq)) (u := (.int .i64 y.Seq)) (by kernel_rfl) (fun w => by kernel_rfl) (fun w => by kernel_rfl) (eqI (by kernel_rfl)) eqN))))) ?_
  rw [Bool.eq_iff_iff]
  obtain ⟨_, _, _⟩ := x; obtain ⟨_, _, _⟩ := y
  simp [GStamp.mk.injEq, and_assoc]
theorem ae33 (x y : GRegisterEvent) : AggEq Try.prog 33 [LV.int .i64 x.Stamp.Time, LV.int .i64 x.Stamp.Source, LV.int .i64 x.Stamp.Seq, LV.int .i64 x.Kind, LV.int .i64 x.Candidate, LV.int .i64 x.Minutes] [LV.int .i64 y.Stamp.Time, LV.int .i64 y.Stamp.Source, LV.int .i64 y.Stamp.Seq, LV.int .i64 y.Kind, LV.int .i64 y.Candidate, LV.int .i64 y.Minutes] (decide (x = y)) := by
  refine eqT (by kernel_rfl) rfl rfl (show EqRun Try.prog (9999 + 1) 33 _ _ _ from (eqS (by kernel_rfl) (by kernel_rfl) (eqC (v := .agg #[.int .i64 x.Stamp.Time, .int .i64 x.Stamp.Source, .int .i64 x.Stamp.Seq]) (u := .agg #[.int .i64 y.Stamp.Time, .int .i64 y.Stamp.Source, .int .i64 y.Stamp.Seq]) (by kernel_rfl) (fun w => by kernel_rfl) (fun w => by kernel_rfl) (eqS (by kernel_rfl) (by kernel_rfl) (eqC (v := (.int .i64 x.Stamp.Time)) (u := (.int .i64 y.Stamp.Time)) (by kernel_rfl) (fun w => by kernel_rfl) (fun w => by kernel_rfl) (eqI (by kernel_rfl)) (eqC (v := (.int .i64 x.Stamp.Source)) (u := (.int .i64 y.Stamp.Source)) (by kernel_rfl) (fun w => by kernel_rfl) (fun w => by kernel_rfl) (eqI (by kernel_rfl)) (eqC (v := (.int .i64 x.Stamp.Seq)) (u := (.int .i64 y.Stamp.Seq)) (by kernel_rfl) (fun w => by kernel_rfl) (fun w => by kernel_rfl) (eqI (by kernel_rfl)) eqN)))) (eqC (v := (.int .i64 x.Kind)) (u := (.int .i64 y.Kind)) (by kernel_rfl) (fun w => by kernel_rfl) (fun w => by kernel_rfl) (eqI (by kernel_rfl)) (eqC (v := (.int .i64 x.Candidate)) (u := (.int .i64 y.Candidate)) (by kernel_rfl) (fun w => by kernel_rfl) (fun w => by kernel_rfl) (eqI (by kernel_rfl)) (eqC (v := (.int .i64 x.Minutes)) (u := (.int .i64 y.Minutes)) (by kernel_rfl) (fun w => by kernel_rfl) (fun w => by kernel_rfl) (eqI (by kernel_rfl)) eqN)))))) ?_
  rw [Bool.eq_iff_iff]
  obtain ⟨⟨_, _, _⟩, _, _, _⟩ := x; obtain ⟨⟨_, _, _⟩, _, _, _⟩ := y
  simp [GRegisterEvent.mk.injEq, GStamp.mk.injEq, and_assoc]
theorem ae56 (x y : GIdentity) : AggEq Try.prog 56 [LV.int .i64 x.Source, LV.int .i64 x.Seq] [LV.int .i64 y.Source, LV.int .i64 y.Seq] (decide (x = y)) := by
  refine eqT (by kernel_rfl) rfl rfl (show EqRun Try.prog (9999 + 1) 56 _ _ _ from (eqS (by kernel_rfl) (by kernel_rfl) (eqC (v := (.int .i64 x.Source)) (u := (.int .i64 y.Source)) (by kernel_rfl) (fun w => by kernel_rfl) (fun w => by kernel_rfl) (eqI (by kernel_rfl)) (eqC (v := (.int .i64 x.Seq)) (u := (.int .i64 y.Seq)) (by kernel_rfl) (fun w => by kernel_rfl) (fun w => by kernel_rfl) (eqI (by kernel_rfl)) eqN)))) ?_
  rw [Bool.eq_iff_iff]
  obtain ⟨_, _⟩ := x; obtain ⟨_, _⟩ := y
  simp [GIdentity.mk.injEq, and_assoc]
theorem ae58 (x y : GRefusal) : AggEq Try.prog 58 [LV.int .i64 x.Event.Source, LV.int .i64 x.Event.Seq, LV.int .i64 x.Code] [LV.int .i64 y.Event.Source, LV.int .i64 y.Event.Seq, LV.int .i64 y.Code] (decide (x = y)) := by
  refine eqT (by kernel_rfl) rfl rfl (show EqRun Try.prog (9999 + 1) 58 _ _ _ from (eqS (by kernel_rfl) (by kernel_rfl) (eqC (v := .agg #[.int .i64 x.Event.Source, .int .i64 x.Event.Seq]) (u := .agg #[.int .i64 y.Event.Source, .int .i64 y.Event.Seq]) (by kernel_rfl) (fun w => by kernel_rfl) (fun w => by kernel_rfl) (eqS (by kernel_rfl) (by kernel_rfl) (eqC (v := (.int .i64 x.Event.Source)) (u := (.int .i64 y.Event.Source)) (by kernel_rfl) (fun w => by kernel_rfl) (fun w => by kernel_rfl) (eqI (by kernel_rfl)) (eqC (v := (.int .i64 x.Event.Seq)) (u := (.int .i64 y.Event.Seq)) (by kernel_rfl) (fun w => by kernel_rfl) (fun w => by kernel_rfl) (eqI (by kernel_rfl)) eqN))) (eqC (v := (.int .i64 x.Code)) (u := (.int .i64 y.Code)) (by kernel_rfl) (fun w => by kernel_rfl) (fun w => by kernel_rfl) (eqI (by kernel_rfl)) eqN)))) ?_
  rw [Bool.eq_iff_iff]
  obtain ⟨⟨_, _⟩, _⟩ := x; obtain ⟨⟨_, _⟩, _⟩ := y
  simp [GRefusal.mk.injEq, GIdentity.mk.injEq, and_assoc]
theorem tm83 : tmap Try.prog 83 = some (3, 4) := by kernel_rfl
theorem tm95 : tmap Try.prog 95 = some (31, 3) := by kernel_rfl
theorem kok3 : KOk Try.prog 3 (fun v => ∃ n, v = .int .i64 n) := kokI (by kernel_rfl)
theorem kf3 : KeyF (LV.int .i64) (fun v => ∃ n, v = .int .i64 n) := kfI
theorem kok31 : KOk Try.prog 31 (fun v => ∃ x : GStamp, v = (fun x : GStamp => Value.agg #[.int .i64 x.Time, .int .i64 x.Source, .int .i64 x.Seq]) x) := kokS (enc := (fun x : GStamp => Value.agg #[.int .i64 x.Time, .int .i64 x.Source, .int .i64 x.Seq])) Try.underlying31 (fun _ _ => rfl) (fun w em x => by kernel_rfl) (fun x y w => eqOf (ae31 x y) rfl rfl w) (fun x => bits_agg (by simp) 9999)
theorem kf31 : KeyF GStamp.lv (fun v => ∃ x : GStamp, v = (fun x : GStamp => Value.agg #[.int .i64 x.Time, .int .i64 x.Source, .int .i64 x.Seq]) x) := ⟨fun x => ⟨_, rfl, ⟨x, rfl⟩, rfl⟩, fun x y h => by obtain ⟨_, _, _⟩ := x; obtain ⟨_, _, _⟩ := y; simpa [GStamp.lv] using h⟩
end Go.Proofs.Ytapnjifcfljmmaa
