/- States that Present and Compare return what the chapter specifies, for arbitrary lists. (For every input.) The frame is that of the kit's shell of a law, written out for these parameters; the walk is by the contract of the law's function. -/
import Derived.Test.YtapnjifcfljmmaaRows
import Derived.Test.YtapnjifcfljmmaaVAttendanceCompares
import Derived.Test.YtapnjifcfljmmaaW3
import Derived.Test.YtapnjifcfljmmaaAf
import Derived.Test.YtapnjifcfljmmaaLr
import Derived.Test.YtapnjifcfljmmaaLy
import Derived.WalkKit
import Derived.ProofKit
import Derived.OpenShut
import Derived.ShutString
import Derived.ChangeOld
import Derived.Below
namespace Go.Proofs.Ytapnjifcfljmmaa.attendanceCompares
open Go.ChangeShapes Go.WideShapes Go.ChangeAt Go.RowKit
open Go.ChangeMaps (open_string shut_string)
set_option linter.unusedVariables false

theorem own : ownKnob Try.prog.godebug = none := by kernel_rfl
theorem laidOut : laidOutB Try.prog = true := by kernel_rfl
theorem op3 : Go.L.Opens Try.prog 3 1 (Go.L.LV.int .i64) := Go.L.opens_int Try.underlying3
open Go.L Go.Sh in
theorem op22 : Opens Try.prog 22 1 (lvl 1 (LV.int .i64)) := opens_slice Try.underlying22 (by kernel_rfl) (by decide) okI (fun _ => .inr rfl) op3
open Go.L Go.Sh in
theorem op54 : Opens Try.prog 54 5 GAttendance.lv := by
  intro H enc W base sp hd fuel cs x h
  obtain ⟨xs, n, _, _, hl0, hxl, hf⟩ := DataW.trod_struct Try.underlying54 h
  have hl : cs.length = 5 := hl0.trans (by kernel_rfl)
  have hx : xs.length = 5 := hxl
  have c3 : Try.prog.cellsOf 3 = 1 := by kernel_rfl
  have c22 : Try.prog.cellsOf 22 = 1 := by kernel_rfl
  have g0 : DataW.trod enc Try.prog W base sp hd n 3 ((cs.drop 0).take (Try.prog.cellsOf 3)) = xs[0]? := hf 0 _ rfl
  rw [c3] at g0
  rw [List.getElem?_eq_getElem (show 0 < xs.length by omega)] at g0
  obtain ⟨z0, l0, r0, o0⟩ := op3 g0
  have g1 : DataW.trod enc Try.prog W base sp hd n 3 ((cs.drop 1).take (Try.prog.cellsOf 3)) = xs[1]? := hf 1 _ rfl
  rw [c3] at g1
  rw [List.getElem?_eq_getElem (show 1 < xs.length by omega)] at g1
  obtain ⟨z1, l1, r1, o1⟩ := op3 g1
  have g2 : DataW.trod enc Try.prog W base sp hd n 3 ((cs.drop 2).take (Try.prog.cellsOf 3)) = xs[2]? := hf 2 _ rfl
  rw [c3] at g2
  rw [List.getElem?_eq_getElem (show 2 < xs.length by omega)] at g2
  obtain ⟨z2, l2, r2, o2⟩ := op3 g2
  have g3 : DataW.trod enc Try.prog W base sp hd n 3 ((cs.drop 3).take (Try.prog.cellsOf 3)) = xs[3]? := hf 3 _ rfl
  rw [c3] at g3
  rw [List.getElem?_eq_getElem (show 3 < xs.length by omega)] at g3
  obtain ⟨z3, l3, r3, o3⟩ := op3 g3
  have g4 : DataW.trod enc Try.prog W base sp hd n 22 ((cs.drop 4).take (Try.prog.cellsOf 22)) = xs[4]? := hf 4 _ rfl
  rw [c22] at g4
  rw [List.getElem?_eq_getElem (show 4 < xs.length by omega)] at g4
  obtain ⟨z4, l4, r4, o4⟩ := op22 g4
  have e : cs = (cs.drop 0).take 1 ++ ((cs.drop 1).take 1 ++ ((cs.drop 2).take 1 ++ ((cs.drop 3).take 1 ++ ((cs.drop 4).take 1)))) := (List.drop_zero (l := cs)).symm.trans ((spl rfl).trans (congrArg (((cs.drop 0).take 1) ++ ·) ((spl rfl).trans (congrArg (((cs.drop 1).take 1) ++ ·) ((spl rfl).trans (congrArg (((cs.drop 2).take 1) ++ ·) ((spl rfl).trans (congrArg (((cs.drop 3).take 1) ++ ·) (splE (by rw [hl]; decide))))))))))
  refine ⟨GAttendance.mk z0 z1 z2 z3 z4, hl, ?_, ?_⟩
  · rw [e]; exact (RepL.append r0 (RepL.append r1 (RepL.append r2 (RepL.append r3 r4))))
  · rw [e]; intro v hv
    simp only [List.mem_append] at hv
    rcases hv with hv | hv | hv | hv | hv
    · exact o0 v hv
    · exact o1 v hv
    · exact o2 v hv
    · exact o3 v hv
    · exact o4 v hv
open Go.L Go.Sh in
theorem op47 : Opens Try.prog 47 1 (lvl 5 GAttendance.lv) := opens_slice Try.underlying47 (by kernel_rfl) (by decide) GAttendance.ok (fun _ => .inl ⟨_, rfl⟩) op54

theorem walk (a0 : Option Addr) (len0 cap0 : Nat) (z0 : List Go.Sh.GAttendance) (a1 : Option Addr) (len1 cap1 : Nat) (z1 : List Int) (a2 : Option Addr) (len2 cap2 : Nat) (z2 : List Int) (w : World) (w0 : open Go.L Go.Sh in RepV (cx0 w) ((lvl 5 GAttendance.lv) z0) (.slice a0 len0 cap0)) (w1 : open Go.L Go.Sh in RepV (cx0 w) ((lvl 1 (LV.int .i64)) z1) (.slice a1 len1 cap1)) (w2 : open Go.L Go.Sh in RepV (cx0 w) ((lvl 1 (LV.int .i64)) z2) (.slice a2 len2 cap2)) :
    Calls Try.prog 10 #[.slice a0 len0 cap0, .slice a1 len1 cap1, .slice a2 len2 cap2] w fun e w' => e = .returned (.bool true) ∧ Below w.heap.size w w' := by
  obtain ⟨F, hF⟩ := Go.Sh.law_AttendanceCompares z0 z1 z2
  exact (Go.L.lawWalk (law16_AttendanceCompares_ok hF) w _ (by open Go.L in exact (rpC w0 (rpC w1 (rpC w2 rpN)))))

set_option maxRecDepth 100000 in
theorem lifted (os : Os) (started : os.Started) (H : Type) (enc : TypeId × Value → H) :
    ReturnsInHanded {} Try.checked os 10 .any (Rows.attendanceComparesSpec.pre6 enc Try.prog Try.f10 Rows.attendanceComparesRow.domain false) (Rows.attendanceComparesSpec.post enc Try.prog Try.f10 false true false false) := by
  refine returnsInHanded_of_change (C := Try.checked) own started (by kernel_rfl) Try.func10
    (ChangeSpec.witness6 (enc := enc) (C := Try.checked) false ⟨#[], #[.slice none 0 0, .slice none 0 0, .slice none 0 0], []⟩ 8 (by kernel_rfl) (by kernel_rfl) (by kernel_rfl) (by kernel_rfl)) ?_
  intro W base args ds gs before hval0 hW hcnd _
  have hval : ∀ (j : Nat) t v, Try.f10.params[j]? = some t → args[j]? = some v → Value.okWide Try.prog W .any base t v := hval0
  have hW' := hW
  obtain ⟨p, q, hA0, hV, rfl, hfz, hnd⟩ := hW
  have hA : DataW.TrodAll enc Try.prog W 0 (fun _ => true) true Try.f10.params.toList args.toList ds p := hA0
  rw [Try.params10] at hA hval
  obtain ⟨v0, vs0, d0, ds0, p0, q0, hargs, rfl, rfl, h0, r0⟩ := trodAll_cons hA
  obtain ⟨v1, vs1, d1, ds1, p1, q1, rfl, rfl, rfl, h1, r1⟩ := trodAll_cons r0
  obtain ⟨v2, vs2, d2, ds2, p2, q2, rfl, rfl, rfl, h2, r2⟩ := trodAll_cons r1
  obtain ⟨rfl, rfl, rfl⟩ := trodAll_nil r2
  obtain rfl : args = #[v0, v1, v2] := by cases args; simp_all
  obtain ⟨rfl, rfl⟩ := trodVars_none hV
  obtain ⟨a0, len0, cap0, rfl⟩ := okWide_slice Try.underlying47 (hval 0 47 v0 rfl rfl)
  have k0 := h0
  have lt0 : ∀ x ∈ p0, x.block < W.heap.size := by obtain ⟨m, hm⟩ := k0; exact DataW.trod_lt m _ _ _ hm
  obtain ⟨z0, w0⟩ := Go.L.opens_val op47 (fun _ => rfl) rfl h0
  obtain ⟨a1, len1, cap1, rfl⟩ := okWide_slice Try.underlying22 (hval 1 22 v1 rfl rfl)
  have k1 := h1
  have lt1 : ∀ x ∈ p1, x.block < W.heap.size := by obtain ⟨m, hm⟩ := k1; exact DataW.trod_lt m _ _ _ hm
  obtain ⟨z1, w1⟩ := Go.L.opens_val op22 (fun _ => rfl) rfl h1
  obtain ⟨a2, len2, cap2, rfl⟩ := okWide_slice Try.underlying22 (hval 2 22 v2 rfl rfl)
  have k2 := h2
  have lt2 : ∀ x ∈ p2, x.block < W.heap.size := by obtain ⟨m, hm⟩ := k2; exact DataW.trod_lt m _ _ _ hm
  obtain ⟨z2, w2⟩ := Go.L.opens_val op22 (fun _ => rfl) rfl h2
  clear hA0 hval0
  refine (walk a0 len0 cap0 z0 a1 len1 cap1 z1 a2 len2 cap2 z2 W w0 w1 w2).mono fun e W' ⟨he, bel⟩ => ?_
  subst he
  exact ⟨_, rfl, _, _, _, [], _, [], hW', trodAll_mk1 (shut_bool Try.underlying4 _), (trodAll_cons_mk (Below.trod laidOut (by kernel_rfl) (of_decide_eq_true (by kernel_rfl)) k0 bel lt0) (trodAll_cons_mk (Below.trod laidOut (by kernel_rfl) (of_decide_eq_true (by kernel_rfl)) k1 bel lt1) (trodAll_cons_mk (Below.trod laidOut (by kernel_rfl) (of_decide_eq_true (by kernel_rfl)) k2 bel lt2) trodAll_mk0))), rfl, bel.frame _, fun h => by cases h⟩

theorem over : Rows.attendanceComparesRow.holds Try.pinned (OpenSpec.ofChange Rows.attendanceComparesSpec) :=
  OpenClaim.holds_of_wide 10 Try.f10 rfl rfl rfl rfl rfl rfl rfl ⟨rfl, rfl, rfl, rfl, rfl⟩ rfl rfl rfl rfl rfl (by kernel_rfl) Try.func10 (by kernel_rfl)
    (of_decide_eq_true (by kernel_rfl)) (by unfold Func.isWrapper; first | (rw [if_pos (by decide +kernel)]; kernel_rfl) | (rw [if_neg (by decide +kernel)]; exact ⟨rfl, rfl⟩))
    (fun os started H enc _ => lifted os started H enc)

/-- ████ THE STATEMENT ████ -/
theorem proved : Rows.AttendanceComparesSaid := over
#print axioms proved
end Go.Proofs.Ytapnjifcfljmmaa.attendanceCompares
