/- States that Paper and Find return what the chapter specifies, for arbitrary lists and numbers. (For every input.) The frame is that of the kit's shell of a law, written out for these parameters; the walk is by the contract of the law's function. -/
import Derived.Test.YtkkhmngmhckgbaaRows
import Derived.Test.YtkkhmngmhckgbaaVEntryFinds
import Derived.Test.YtkkhmngmhckgbaaEe
import Derived.Test.YtkkhmngmhckgbaaLr
import Derived.Test.YtkkhmngmhckgbaaLw
import Derived.Test.YtkkhmngmhckgbaaLy
import Derived.WalkKit
import Derived.ProofKit
import Derived.OpenShut
import Derived.ShutString
import Derived.ChangeOld
import Derived.Below
namespace Go.Proofs.Ytkkhmngmhckgbaa.entryFinds
open Go.ChangeShapes Go.WideShapes Go.ChangeAt Go.RowKit
open Go.ChangeMaps (open_string shut_string)
set_option linter.unusedVariables false

theorem own : ownKnob Try.prog.godebug = none := by kernel_rfl
theorem laidOut : laidOutB Try.prog = true := by kernel_rfl
theorem op3 : Go.L.Opens Try.prog 3 1 (Go.L.LV.int .i64) := Go.L.opens_int Try.underlying3
open Go.L Go.Sh in
theorem op33 : Opens Try.prog 33 3 GEntry.lv := by
  intro H enc W base sp hd fuel cs x h
  obtain ⟨xs, n, _, _, hl0, hxl, hf⟩ := DataW.trod_struct Try.underlying33 h
  have hl : cs.length = 3 := hl0.trans (by kernel_rfl)
  have hx : xs.length = 3 := hxl
  have c3 : Try.prog.cellsOf 3 = 1 := by kernel_rfl
  have g0 : DataW.trod enc Try.prog W base sp hd n 3 ((cs.drop 0).take (Try.prog.cellsOf 3)) = xs[0]? := hf 0 _ rfl
  rw [c3] at g0
  rw [List.getElem?_eq_getElem (show 0 < xs.length by omega)] at g0
  obtain ⟨z0, l0, r0, o0⟩ := op3 g0
  have g1 : DataW.trod enc Try.prog W base sp hd n 3 ((cs.drop 1).take (Try.prog.cellsOf 3)) = xs[1]? := hf 1 _ rfl
  rw [c3] at g1
  rw [List.getElem?_eq_getElem (show 1 < xs.length by omega)] at g1
  obtain ⟨z1, l1, r1, o1⟩ := op3 g1
  have g2 : DataW.trod enc Try.prog W base sp hd n 3 ((cs.drop 2).take (Try.prog.cellsOf 3)) = xs[2]? := hf 2 _ rfl
  rw [c3] at g2
  rw [List.getElem?_eq_getElem (show 2 < xs.length by omega)] at g2
  obtain ⟨z2, l2, r2, o2⟩ := op3 g2
  have e : cs = (cs.drop 0).take 1 ++ ((cs.drop 1).take 1 ++ ((cs.drop 2).take 1)) := (List.drop_zero (l := cs)).symm.trans ((spl rfl).trans (congrArg (((cs.drop 0).take 1) ++ ·) ((spl rfl).trans (congrArg (((cs.drop 1).take 1) ++ ·) (splE (by rw [hl]; decide))))))
  refine ⟨GEntry.mk z0 z1 z2, hl, ?_, ?_⟩
  · rw [e]; exact (RepL.append r0 (RepL.append r1 r2))
  · rw [e]; intro v hv
    simp only [List.mem_append] at hv
    rcases hv with hv | hv | hv
    · exact o0 v hv
    · exact o1 v hv
    · exact o2 v hv
theorem op4 : Go.L.Opens Try.prog 4 1 Go.L.LV.bool := Go.L.opens_bool Try.underlying4
open Go.L Go.Sh in
theorem op53 : Opens Try.prog 53 4 GEnrolment.lv := by
  intro H enc W base sp hd fuel cs x h
  obtain ⟨xs, n, _, _, hl0, hxl, hf⟩ := DataW.trod_struct Try.underlying53 h
  have hl : cs.length = 4 := hl0.trans (by kernel_rfl)
  have hx : xs.length = 2 := hxl
  have c4 : Try.prog.cellsOf 4 = 1 := by kernel_rfl
  have c33 : Try.prog.cellsOf 33 = 3 := by kernel_rfl
  have g0 : DataW.trod enc Try.prog W base sp hd n 33 ((cs.drop 0).take (Try.prog.cellsOf 33)) = xs[0]? := hf 0 _ rfl
  rw [c33] at g0
  rw [List.getElem?_eq_getElem (show 0 < xs.length by omega)] at g0
  obtain ⟨z0, l0, r0, o0⟩ := op33 g0
  have g1 : DataW.trod enc Try.prog W base sp hd n 4 ((cs.drop 3).take (Try.prog.cellsOf 4)) = xs[1]? := hf 1 _ rfl
  rw [c4] at g1
  rw [List.getElem?_eq_getElem (show 1 < xs.length by omega)] at g1
  obtain ⟨z1, l1, r1, o1⟩ := op4 g1
  have e : cs = (cs.drop 0).take 3 ++ ((cs.drop 3).take 1) := (List.drop_zero (l := cs)).symm.trans ((spl rfl).trans (congrArg (((cs.drop 0).take 3) ++ ·) (splE (by rw [hl]; decide))))
  refine ⟨GEnrolment.mk z0 z1, hl, ?_, ?_⟩
  · rw [e]; exact (RepL.append r0 r1)
  · rw [e]; intro v hv
    simp only [List.mem_append] at hv
    rcases hv with hv | hv
    · exact o0 v hv
    · exact o1 v hv
open Go.L Go.Sh in
theorem op44 : Opens Try.prog 44 1 (lvl 4 GEnrolment.lv) := opens_slice Try.underlying44 (by kernel_rfl) (by decide) GEnrolment.ok (fun _ => .inl ⟨_, rfl⟩) op53
open Go.L Go.Sh in
theorem op22 : Opens Try.prog 22 1 (lvl 1 (LV.int .i64)) := opens_slice Try.underlying22 (by kernel_rfl) (by decide) okI (fun _ => .inr rfl) op3

theorem walk (a0 : Option Addr) (len0 cap0 : Nat) (z0 : List Go.Sh.GEnrolment) (a1 : Option Addr) (len1 cap1 : Nat) (z1 : List Int) (a2 : Int) (a3 : Int) (w : World) (w0 : open Go.L Go.Sh in RepV (cx0 w) ((lvl 4 GEnrolment.lv) z0) (.slice a0 len0 cap0)) (w1 : open Go.L Go.Sh in RepV (cx0 w) ((lvl 1 (LV.int .i64)) z1) (.slice a1 len1 cap1)) (w2 : (Lit.int .i64 a2).wf = true) (w3 : (Lit.int .i64 a3).wf = true) :
    Calls Try.prog 9 #[.slice a0 len0 cap0, .slice a1 len1 cap1, .int .i64 a2, .int .i64 a3] w fun e w' => e = .returned (.bool true) ∧ Below w.heap.size w w' := by
  obtain ⟨F, hF⟩ := Go.Sh.law_EntryFinds z0 z1 a2 a3
  exact (Go.L.lawWalk (law13_EntryFinds_ok hF) w _ (by open Go.L in exact (rpC w0 (rpC w1 (rpC rpI (rpC rpI rpN))))))

set_option maxRecDepth 100000 in
theorem lifted (os : Os) (started : os.Started) (H : Type) (enc : TypeId × Value → H) :
    ReturnsInHanded {} Try.checked os 9 .any (Rows.entryFindsSpec.pre6 enc Try.prog Try.f9 Rows.entryFindsRow.domain false) (Rows.entryFindsSpec.post enc Try.prog Try.f9 false true false false) := by
  refine returnsInHanded_of_change (C := Try.checked) own started (by kernel_rfl) Try.func9
    (ChangeSpec.witness6 (enc := enc) (C := Try.checked) false ⟨#[], #[.slice none 0 0, .slice none 0 0, .int .i64 0, .int .i64 0], []⟩ 8 (by kernel_rfl) (by kernel_rfl) (by kernel_rfl) (by kernel_rfl)) ?_
  intro W base args ds gs before hval0 hW hcnd _
  have hval : ∀ (j : Nat) t v, Try.f9.params[j]? = some t → args[j]? = some v → Value.okWide Try.prog W .any base t v := hval0
  have hW' := hW
  obtain ⟨p, q, hA0, hV, rfl, hfz, hnd⟩ := hW
  have hA : DataW.TrodAll enc Try.prog W 0 (fun _ => true) true Try.f9.params.toList args.toList ds p := hA0
  rw [Try.params9] at hA hval
  obtain ⟨v0, vs0, d0, ds0, p0, q0, hargs, rfl, rfl, h0, r0⟩ := trodAll_cons hA
  obtain ⟨v1, vs1, d1, ds1, p1, q1, rfl, rfl, rfl, h1, r1⟩ := trodAll_cons r0
  obtain ⟨v2, vs2, d2, ds2, p2, q2, rfl, rfl, rfl, h2, r2⟩ := trodAll_cons r1
  obtain ⟨v3, vs3, d3, ds3, p3, q3, rfl, rfl, rfl, h3, r3⟩ := trodAll_cons r2
  obtain ⟨rfl, rfl, rfl⟩ := trodAll_nil r3
  obtain rfl : args = #[v0, v1, v2, v3] := by cases args; simp_all
  obtain ⟨rfl, rfl⟩ := trodVars_none hV
  obtain ⟨a0, len0, cap0, rfl⟩ := okWide_slice Try.underlying44 (hval 0 44 v0 rfl rfl)
  have k0 := h0
  have lt0 : ∀ x ∈ p0, x.block < W.heap.size := by obtain ⟨m, hm⟩ := k0; exact DataW.trod_lt m _ _ _ hm
  obtain ⟨z0, w0⟩ := Go.L.opens_val op44 (fun _ => rfl) rfl h0
  obtain ⟨a1, len1, cap1, rfl⟩ := okWide_slice Try.underlying22 (hval 1 22 v1 rfl rfl)
  have k1 := h1
  have lt1 : ∀ x ∈ p1, x.block < W.heap.size := by obtain ⟨m, hm⟩ := k1; exact DataW.trod_lt m _ _ _ hm
  obtain ⟨z1, w1⟩ := Go.L.opens_val op22 (fun _ => rfl) rfl h1
  obtain ⟨a2, rfl, rfl, rfl, w2⟩ := open_int Try.underlying3 (hval 2 3 v2 rfl rfl) h2
  obtain ⟨a3, rfl, rfl, rfl, w3⟩ := open_int Try.underlying3 (hval 3 3 v3 rfl rfl) h3
  clear hA0 hval0
  refine (walk a0 len0 cap0 z0 a1 len1 cap1 z1 a2 a3 W w0 w1 w2 w3).mono fun e W' ⟨he, bel⟩ => ?_
  subst he
  exact ⟨_, rfl, _, _, _, [], _, [], hW', trodAll_mk1 (shut_bool Try.underlying4 _), (trodAll_cons_mk (Below.trod laidOut (by kernel_rfl) (of_decide_eq_true (by kernel_rfl)) k0 bel lt0) (trodAll_cons_mk (Below.trod laidOut (by kernel_rfl) (of_decide_eq_true (by kernel_rfl)) k1 bel lt1) (trodAll_cons_mk (shut_int Try.underlying3 w2) (trodAll_cons_mk (shut_int Try.underlying3 w3) trodAll_mk0)))), rfl, bel.frame _, fun h => by cases h⟩

theorem over : Rows.entryFindsRow.holds Try.pinned (OpenSpec.ofChange Rows.entryFindsSpec) :=
  OpenClaim.holds_of_wide 9 Try.f9 rfl rfl rfl rfl rfl rfl rfl ⟨rfl, rfl, rfl, rfl, rfl⟩ rfl rfl rfl rfl rfl (by kernel_rfl) Try.func9 (by kernel_rfl)
    (of_decide_eq_true (by kernel_rfl)) (by unfold Func.isWrapper; first | (rw [if_pos (by decide +kernel)]; kernel_rfl) | (rw [if_neg (by decide +kernel)]; exact ⟨rfl, rfl⟩))
    (fun os started H enc _ => lifted os started H enc)

/-- ████ THE STATEMENT ████ -/
theorem proved : Rows.EntryFindsSaid := over
#print axioms proved
end Go.Proofs.Ytkkhmngmhckgbaa.entryFinds
