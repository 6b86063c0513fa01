/- States all functions for any events. (For every input of bulk at most 1048576.) The frame is that of the kit's shell of a law, written out for these parameters; the walk is by the contract of the law's function. -/
import Derived.Test.YtbicmjeldappjaaRows
import Derived.WalkKit
import Derived.ProofKit
import Derived.OpenShut
import Derived.ShutString
import Derived.ChangeOld
import Derived.Below
import Derived.JoinedCond
import Derived.Test.YtbicmjeldappjaaZVMarklogExact
import Derived.Test.YtbicmjeldappjaaZW2
import Derived.Test.YtbicmjeldappjaaZPa
import Derived.Test.YtbicmjeldappjaaZLb
namespace Go.Proofs.Ytbicmjeldappjaa.marklogExact
open Go.ChangeShapes Go.WideShapes Go.ChangeAt Go.RowKit
open Go.ChangeMaps (open_string shut_string)
set_option linter.unusedVariables false

theorem own : ownKnob Try.prog.godebug = none := by kernel_rfl
theorem laidOut : laidOutB Try.prog = true := by kernel_rfl
theorem op3 : Go.L.Opens Try.prog 3 1 (Go.L.LV.int .i64) := Go.L.opens_int Try.underlying3
open Go.L Go.Sh in
theorem op22 : Opens Try.prog 22 1 (lvl 1 LV.I) := opens_slice Try.underlying22 (by kernel_rfl) (by decide) okI (fun _ => .inr rfl) op3
open Go.L Go.Sh in
theorem op45 : Opens Try.prog 45 3 Gq56.lv := by
 intro H enc W base sp hd fuel cs x h
 obtain ⟨xs, n, _, _, hl0, hxl, hf⟩ := DataW.trod_struct Try.underlying45 h
 have hl : cs.length = 3 := hl0.trans (by kernel_rfl)
 have hx : xs.length = 3 := hxl
 have c3 : Try.prog.cellsOf 3 = 1 := by kernel_rfl
 have g0 : DataW.trod enc Try.prog W base sp hd n 3 ((cs.drop 0).take (Try.prog.cellsOf 3)) = xs[0]? := hf 0 _ rfl
 rw [c3] at g0
 rw [List.getElem?_eq_getElem (show 0 < xs.length by omega)] at g0
 obtain ⟨z0, l0, r0, o0⟩ := op3 g0
 have g1 : DataW.trod enc Try.prog W base sp hd n 3 ((cs.drop 1).take (Try.prog.cellsOf 3)) = xs[1]? := hf 1 _ rfl
 rw [c3] at g1
 rw [List.getElem?_eq_getElem (show 1 < xs.length by omega)] at g1
 obtain ⟨z1, l1, r1, o1⟩ := op3 g1
 have g2 : DataW.trod enc Try.prog W base sp hd n 3 ((cs.drop 2).take (Try.prog.cellsOf 3)) = xs[2]? := hf 2 _ rfl
 rw [c3] at g2
 rw [List.getElem?_eq_getElem (show 2 < xs.length by omega)] at g2
 obtain ⟨z2, l2, r2, o2⟩ := op3 g2
 have e : cs = (cs.drop 0).take 1 ++ ((cs.drop 1).take 1 ++ ((cs.drop 2).take 1)) := (List.drop_zero (l := cs)).symm.trans ((spl rfl).trans (congrArg (((cs.drop 0).take 1) ++ ·) ((spl rfl).trans (congrArg (((cs.drop 1).take 1) ++ ·) (splE (by rw [hl]; decide))))))
 refine ⟨Gq56.mk z0 z1 z2, hl, ?_, ?_⟩
 ·rw [e]; exact (RepL.append r0 (RepL.append r1 r2))
 ·rw [e]; intro v hv
  simp only [List.mem_append] at hv
  rcases hv with hv | hv | hv
  ·exact o0 v hv
  ·exact o1 v hv
  ·exact o2 v hv
open Go.L Go.Sh in
theorem op47 : Opens Try.prog 47 9 Gq49.lv := by
 intro H enc W base sp hd fuel cs x h
 obtain ⟨xs, n, _, _, hl0, hxl, hf⟩ := DataW.trod_struct Try.underlying47 h
 have hl : cs.length = 9 := hl0.trans (by kernel_rfl)
 have hx : xs.length = 7 := hxl
 have c3 : Try.prog.cellsOf 3 = 1 := by kernel_rfl
 have c22 : Try.prog.cellsOf 22 = 1 := by kernel_rfl
 have c45 : Try.prog.cellsOf 45 = 3 := by kernel_rfl
 have g0 : DataW.trod enc Try.prog W base sp hd n 45 ((cs.drop 0).take (Try.prog.cellsOf 45)) = xs[0]? := hf 0 _ rfl
 rw [c45] at g0
 rw [List.getElem?_eq_getElem (show 0 < xs.length by omega)] at g0
 obtain ⟨z0, l0, r0, o0⟩ := op45 g0
 have g1 : DataW.trod enc Try.prog W base sp hd n 3 ((cs.drop 3).take (Try.prog.cellsOf 3)) = xs[1]? := hf 1 _ rfl
 rw [c3] at g1
 rw [List.getElem?_eq_getElem (show 1 < xs.length by omega)] at g1
 obtain ⟨z1, l1, r1, o1⟩ := op3 g1
 have g2 : DataW.trod enc Try.prog W base sp hd n 3 ((cs.drop 4).take (Try.prog.cellsOf 3)) = xs[2]? := hf 2 _ rfl
 rw [c3] at g2
 rw [List.getElem?_eq_getElem (show 2 < xs.length by omega)] at g2
 obtain ⟨z2, l2, r2, o2⟩ := op3 g2
 have g3 : DataW.trod enc Try.prog W base sp hd n 3 ((cs.drop 5).take (Try.prog.cellsOf 3)) = xs[3]? := hf 3 _ rfl
 rw [c3] at g3
 rw [List.getElem?_eq_getElem (show 3 < xs.length by omega)] at g3
 obtain ⟨z3, l3, r3, o3⟩ := op3 g3
 have g4 : DataW.trod enc Try.prog W base sp hd n 3 ((cs.drop 6).take (Try.prog.cellsOf 3)) = xs[4]? := hf 4 _ rfl
 rw [c3] at g4
 rw [List.getElem?_eq_getElem (show 4 < xs.length by omega)] at g4
 obtain ⟨z4, l4, r4, o4⟩ := op3 g4
 have g5 : DataW.trod enc Try.prog W base sp hd n 3 ((cs.drop 7).take (Try.prog.cellsOf 3)) = xs[5]? := hf 5 _ rfl
 rw [c3] at g5
 rw [List.getElem?_eq_getElem (show 5 < xs.length by omega)] at g5
 obtain ⟨z5, l5, r5, o5⟩ := op3 g5
 have g6 : DataW.trod enc Try.prog W base sp hd n 22 ((cs.drop 8).take (Try.prog.cellsOf 22)) = xs[6]? := hf 6 _ rfl
 rw [c22] at g6
 rw [List.getElem?_eq_getElem (show 6 < xs.length by omega)] at g6
 obtain ⟨z6, l6, r6, o6⟩ := op22 g6
 have e : cs = (cs.drop 0).take 3 ++ ((cs.drop 3).take 1 ++ ((cs.drop 4).take 1 ++ ((cs.drop 5).take 1 ++ ((cs.drop 6).take 1 ++ ((cs.drop 7).take 1 ++ ((cs.drop 8).take 1)))))) := (List.drop_zero (l := cs)).symm.trans ((spl rfl).trans (congrArg (((cs.drop 0).take 3) ++ ·) ((spl rfl).trans (congrArg (((cs.drop 3).take 1) ++ ·) ((spl rfl).trans (congrArg (((cs.drop 4).take 1) ++ ·) ((spl rfl).trans (congrArg (((cs.drop 5).take 1) ++ ·) ((spl rfl).trans (congrArg (((cs.drop 6).take 1) ++ ·) ((spl rfl).trans (congrArg (((cs.drop 7).take 1) ++ ·) (splE (by rw [hl]; decide))))))))))))))
 refine ⟨Gq49.mk z0 z1 z2 z3 z4 z5 z6, hl, ?_, ?_⟩
 ·rw [e]; exact (RepL.append r0 (RepL.append r1 (RepL.append r2 (RepL.append r3 (RepL.append r4 (RepL.append r5 r6))))))
 ·rw [e]; intro v hv
  simp only [List.mem_append] at hv
  rcases hv with hv | hv | hv | hv | hv | hv | hv
  ·exact o0 v hv
  ·exact o1 v hv
  ·exact o2 v hv
  ·exact o3 v hv
  ·exact o4 v hv
  ·exact o5 v hv
  ·exact o6 v hv
open Go.L Go.Sh in
theorem op27 : Opens Try.prog 27 1 (lvl 9 Gq49.lv) := opens_slice Try.underlying27 (by kernel_rfl) (by decide) Gq49.ok (fun _ => .inl ⟨_, rfl⟩) op47
theorem ubLen {H : Type} (l : List (DataW H)) : l.length ≤ Rows.uptoBulkAll l := by
 induction l with
 | nil => simp [Rows.uptoBulkAll]
 | cons x r ih =>
  have : 1 ≤ Rows.uptoBulk x := by
   cases x with
   | lit l => cases l <;> simp [Rows.uptoBulk]
   | _ => simp [Rows.uptoBulk]
  simp only [Rows.uptoBulkAll, List.length_cons]; omega
theorem ubPart {H : Type} {d : DataW H} {l : List (DataW H)} (h : d ∈ l) : Rows.uptoBulk d ≤ Rows.uptoBulkAll l := by
 induction l with
 | nil => cases h
 | cons x r ih =>
  simp only [Rows.uptoBulkAll]
  cases List.mem_cons.1 h with
  | inl e => subst e; omega
  | inr e => have := ih e; omega
theorem ubOk {H : Type} : Go.L.Bulky (Rows.uptoBulk (H := H)) where
 len es sp := by have := ubLen es; simp only [Rows.uptoBulk]; omega
 el es sp d h := by have := ubPart h; simp only [Rows.uptoBulk]; omega
 part ps d h := by have := ubPart h; simp only [Rows.uptoBulk]; omega
abbrev sU3 (z : Int) (n : Nat) : Prop := True
theorem ou3 : Go.L.OpensU Try.prog 3 1 (Go.L.LV.int .i64) sU3 := Go.L.opensU_of op3
abbrev sU22 (zs : List Int) (n : Nat) : Prop := zs.length ≤ n ∧ ∀ z ∈ zs, sU3 z n
open Go.L Go.Sh in
theorem ou22 : OpensU Try.prog 22 1 (lvl 1 LV.I) sU22 := opensU_slice Try.underlying22 (by kernel_rfl) (by decide) okI (fun _ => .inr rfl) ou3
abbrev sU45 (z : Go.Sh.Gq56) (n : Nat) : Prop := sU3 z.Time n ∧ sU3 z.Source n ∧ sU3 z.Seq n
open Go.L Go.Sh in
theorem ou45 : OpensU Try.prog 45 3 Gq56.lv sU45 := by
 intro H enc W base sp hd fuel cs x h ub hub
 obtain ⟨xs, n, _, rfl, hl0, hxl, hf⟩ := DataW.trod_struct Try.underlying45 h
 have hl : cs.length = 3 := hl0.trans (by kernel_rfl)
 have hx : xs.length = 3 := hxl
 have c3 : Try.prog.cellsOf 3 = 1 := by kernel_rfl
 have g0 : DataW.trod enc Try.prog W base sp hd n 3 ((cs.drop 0).take (Try.prog.cellsOf 3)) = xs[0]? := hf 0 _ rfl
 rw [c3] at g0
 rw [List.getElem?_eq_getElem (show 0 < xs.length by omega)] at g0
 obtain ⟨z0, l0, r0, o0, y0⟩ := ou3 g0 ub hub
 have g1 : DataW.trod enc Try.prog W base sp hd n 3 ((cs.drop 1).take (Try.prog.cellsOf 3)) = xs[1]? := hf 1 _ rfl
 rw [c3] at g1
 rw [List.getElem?_eq_getElem (show 1 < xs.length by omega)] at g1
 obtain ⟨z1, l1, r1, o1, y1⟩ := ou3 g1 ub hub
 have g2 : DataW.trod enc Try.prog W base sp hd n 3 ((cs.drop 2).take (Try.prog.cellsOf 3)) = xs[2]? := hf 2 _ rfl
 rw [c3] at g2
 rw [List.getElem?_eq_getElem (show 2 < xs.length by omega)] at g2
 obtain ⟨z2, l2, r2, o2, y2⟩ := ou3 g2 ub hub
 have e : cs = (cs.drop 0).take 1 ++ ((cs.drop 1).take 1 ++ ((cs.drop 2).take 1)) := (List.drop_zero (l := cs)).symm.trans ((spl rfl).trans (congrArg (((cs.drop 0).take 1) ++ ·) ((spl rfl).trans (congrArg (((cs.drop 1).take 1) ++ ·) (splE (by rw [hl]; decide))))))
 refine ⟨Gq56.mk z0 z1 z2, hl, ?_, ?_, fun q hq => ⟨y0 q (Nat.le_trans (hub.part _ _ (List.mem_map.2 ⟨xs[0], List.getElem_mem (by omega), rfl⟩)) hq), y1 q (Nat.le_trans (hub.part _ _ (List.mem_map.2 ⟨xs[1], List.getElem_mem (by omega), rfl⟩)) hq), y2 q (Nat.le_trans (hub.part _ _ (List.mem_map.2 ⟨xs[2], List.getElem_mem (by omega), rfl⟩)) hq)⟩⟩
 ·rw [e]; exact (RepL.append r0 (RepL.append r1 r2))
 ·rw [e]; intro v hv
  simp only [List.mem_append] at hv
  rcases hv with hv | hv | hv
  ·exact o0 v hv
  ·exact o1 v hv
  ·exact o2 v hv
abbrev sU47 (z : Go.Sh.Gq49) (n : Nat) : Prop := sU45 z.Stamp n ∧ sU3 z.Kind n ∧ sU3 z.Script n ∧ sU3 z.Part n ∧ sU3 z.Value n ∧ sU3 z.Marker n ∧ sU22 z.Pages n
open Go.L Go.Sh in
theorem ou47 : OpensU Try.prog 47 9 Gq49.lv sU47 := by
 intro H enc W base sp hd fuel cs x h ub hub
 obtain ⟨xs, n, _, rfl, hl0, hxl, hf⟩ := DataW.trod_struct Try.underlying47 h
 have hl : cs.length = 9 := hl0.trans (by kernel_rfl)
 have hx : xs.length = 7 := hxl
 have c3 : Try.prog.cellsOf 3 = 1 := by kernel_rfl
 have c22 : Try.prog.cellsOf 22 = 1 := by kernel_rfl
 have c45 : Try.prog.cellsOf 45 = 3 := by kernel_rfl
 have g0 : DataW.trod enc Try.prog W base sp hd n 45 ((cs.drop 0).take (Try.prog.cellsOf 45)) = xs[0]? := hf 0 _ rfl
 rw [c45] at g0
 rw [List.getElem?_eq_getElem (show 0 < xs.length by omega)] at g0
 obtain ⟨z0, l0, r0, o0, y0⟩ := ou45 g0 ub hub
 have g1 : DataW.trod enc Try.prog W base sp hd n 3 ((cs.drop 3).take (Try.prog.cellsOf 3)) = xs[1]? := hf 1 _ rfl
 rw [c3] at g1
 rw [List.getElem?_eq_getElem (show 1 < xs.length by omega)] at g1
 obtain ⟨z1, l1, r1, o1, y1⟩ := ou3 g1 ub hub
 have g2 : DataW.trod enc Try.prog W base sp hd n 3 ((cs.drop 4).take (Try.prog.cellsOf 3)) = xs[2]? := hf 2 _ rfl
 rw [c3] at g2
 rw [List.getElem?_eq_getElem (show 2 < xs.length by omega)] at g2
 obtain ⟨z2, l2, r2, o2, y2⟩ := ou3 g2 ub hub
 have g3 : DataW.trod enc Try.prog W base sp hd n 3 ((cs.drop 5).take (Try.prog.cellsOf 3)) = xs[3]? := hf 3 _ rfl
 rw [c3] at g3
 rw [List.getElem?_eq_getElem (show 3 < xs.length by omega)] at g3
 obtain ⟨z3, l3, r3, o3, y3⟩ := ou3 g3 ub hub
 have g4 : DataW.trod enc Try.prog W base sp hd n 3 ((cs.drop 6).take (Try.prog.cellsOf 3)) = xs[4]? := hf 4 _ rfl
 rw [c3] at g4
 rw [List.getElem?_eq_getElem (show 4 < xs.length by omega)] at g4
 obtain ⟨z4, l4, r4, o4, y4⟩ := ou3 g4 ub hub
 have g5 : DataW.trod enc Try.prog W base sp hd n 3 ((cs.drop 7).take (Try.prog.cellsOf 3)) = xs[5]? := hf 5 _ rfl
 rw [c3] at g5
 rw [List.getElem?_eq_getElem (show 5 < xs.length by omega)] at g5
 obtain ⟨z5, l5, r5, o5, y5⟩ := ou3 g5 ub hub
 have g6 : DataW.trod enc Try.prog W base sp hd n 22 ((cs.drop 8).take (Try.prog.cellsOf 22)) = xs[6]? := hf 6 _ rfl
 rw [c22] at g6
 rw [List.getElem?_eq_getElem (show 6 < xs.length by omega)] at g6
 obtain ⟨z6, l6, r6, o6, y6⟩ := ou22 g6 ub hub
 have e : cs = (cs.drop 0).take 3 ++ ((cs.drop 3).take 1 ++ ((cs.drop 4).take 1 ++ ((cs.drop 5).take 1 ++ ((cs.drop 6).take 1 ++ ((cs.drop 7).take 1 ++ ((cs.drop 8).take 1)))))) := (List.drop_zero (l := cs)).symm.trans ((spl rfl).trans (congrArg (((cs.drop 0).take 3) ++ ·) ((spl rfl).trans (congrArg (((cs.drop 3).take 1) ++ ·) ((spl rfl).trans (congrArg (((cs.drop 4).take 1) ++ ·) ((spl rfl).trans (congrArg (((cs.drop 5).take 1) ++ ·) ((spl rfl).trans (congrArg (((cs.drop 6).take 1) ++ ·) ((spl rfl).trans (congrArg (((cs.drop 7).take 1) ++ ·) (splE (by rw [hl]; decide))))))))))))))
 refine ⟨Gq49.mk z0 z1 z2 z3 z4 z5 z6, hl, ?_, ?_, fun q hq => ⟨y0 q (Nat.le_trans (hub.part _ _ (List.mem_map.2 ⟨xs[0], List.getElem_mem (by omega), rfl⟩)) hq), y1 q (Nat.le_trans (hub.part _ _ (List.mem_map.2 ⟨xs[1], List.getElem_mem (by omega), rfl⟩)) hq), y2 q (Nat.le_trans (hub.part _ _ (List.mem_map.2 ⟨xs[2], List.getElem_mem (by omega), rfl⟩)) hq), y3 q (Nat.le_trans (hub.part _ _ (List.mem_map.2 ⟨xs[3], List.getElem_mem (by omega), rfl⟩)) hq), y4 q (Nat.le_trans (hub.part _ _ (List.mem_map.2 ⟨xs[4], List.getElem_mem (by omega), rfl⟩)) hq), y5 q (Nat.le_trans (hub.part _ _ (List.mem_map.2 ⟨xs[5], List.getElem_mem (by omega), rfl⟩)) hq), y6 q (Nat.le_trans (hub.part _ _ (List.mem_map.2 ⟨xs[6], List.getElem_mem (by omega), rfl⟩)) hq)⟩⟩
 ·rw [e]; exact (RepL.append r0 (RepL.append r1 (RepL.append r2 (RepL.append r3 (RepL.append r4 (RepL.append r5 r6))))))
 ·rw [e]; intro v hv
  simp only [List.mem_append] at hv
  rcases hv with hv | hv | hv | hv | hv | hv | hv
  ·exact o0 v hv
  ·exact o1 v hv
  ·exact o2 v hv
  ·exact o3 v hv
  ·exact o4 v hv
  ·exact o5 v hv
  ·exact o6 v hv
abbrev sU27 (zs : List Go.Sh.Gq49) (n : Nat) : Prop := zs.length ≤ n ∧ ∀ z ∈ zs, sU47 z n
open Go.L Go.Sh in
theorem ou27 : OpensU Try.prog 27 1 (lvl 9 Gq49.lv) sU27 := opensU_slice Try.underlying27 (by kernel_rfl) (by decide) Gq49.ok (fun _ => .inl ⟨_, rfl⟩) ou47

theorem walk (a0 : Option Addr) (len0 cap0 : Nat) (z0 : List Int) (a1 : Option Addr) (len1 cap1 : Nat) (z1 : List Go.Sh.Gq49) (a2 : Int) (a3 : Int) (w : World) (w0 : open Go.L Go.Sh in RepV (cx0 w) ((lvl 1 LV.I) z0) (.slice a0 len0 cap0)) (w1 : open Go.L Go.Sh in RepV (cx0 w) ((lvl 9 Gq49.lv) z1) (.slice a1 len1 cap1)) (w2 : (Lit.int .i64 a2).wf = true) (w3 : (Lit.int .i64 a3).wf = true) (u0 : sU22 z0 1048576) (u1 : sU27 z1 1048576) :
  Calls Try.prog 5 #[.slice a0 len0 cap0, .slice a1 len1 cap1, .int .i64 a2, .int .i64 a3] w fun e w' => e = .returned (.bool true) ∧ Below w.heap.size w w' := by
 obtain ⟨F, hF⟩ := Go.Sh.law_MarklogExact z0 z1 a2 a3 (fun e he => (u1.2 e he).2.2.2.2.2.2.1)
 exact (Go.L.lawWalk (q143q hF) w _ (by open Go.L in exact (rpC w0 (rpC w1 (rpC rpI (rpC rpI rpN))))))

set_option linter.unusedSimpArgs false in
set_option maxRecDepth 100000 in
theorem contract (H : Type) (enc : TypeId × Value → H) (W : World) (base : Nat) (args : Array Value) (ds gs : List (DataW H)) (before : List MemPlace)
  (hval : ∀ (j : Nat) t v, Try.f5.params[j]? = some t → args[j]? = some v → Value.okWide Try.prog W .any base t v)
  (hW : DataW.Whole enc Try.prog Try.f5.params.toList Rows.marklogExactSpec.vars false W args.toList ds gs before) (hk : Rows.uptoSmall H (ds ++ gs) = true) :
  Calls Try.prog 5 args W fun e W' => ∃ v, e = .returned v ∧ Rows.marklogExactSpec.post enc Try.prog Try.f5 false true false false W args v W' := by
 have hW' := hW
 obtain ⟨p, q, hA0, hV, rfl, hfz, hnd⟩ := hW
 have hA : DataW.TrodAll enc Try.prog W 0 (fun _ => true) true Try.f5.params.toList args.toList ds p := hA0
 rw [Try.params5] at hA hval
 obtain ⟨v0, vs0, d0, ds0, p0, q0, hargs, rfl, rfl, h0, r0⟩ := trodAll_cons hA
 obtain ⟨v1, vs1, d1, ds1, p1, q1, rfl, rfl, rfl, h1, r1⟩ := trodAll_cons r0
 obtain ⟨v2, vs2, d2, ds2, p2, q2, rfl, rfl, rfl, h2, r2⟩ := trodAll_cons r1
 obtain ⟨v3, vs3, d3, ds3, p3, q3, rfl, rfl, rfl, h3, r3⟩ := trodAll_cons r2
 obtain ⟨rfl, rfl, rfl⟩ := trodAll_nil r3
 obtain rfl : args = #[v0, v1, v2, v3] := by cases args; simp_all
 obtain ⟨rfl, rfl⟩ := trodVars_none hV
 have hB := of_decide_eq_true hk
 simp only [List.append_nil, List.cons_append, List.nil_append, Rows.uptoBulkAll] at hB
 have b0 : Rows.uptoBulk d0 ≤ 1048576 := by omega
 have b1 : Rows.uptoBulk d1 ≤ 1048576 := by omega
 have b2 : Rows.uptoBulk d2 ≤ 1048576 := by omega
 have b3 : Rows.uptoBulk d3 ≤ 1048576 := by omega
 obtain ⟨a0, len0, cap0, rfl⟩ := okWide_slice Try.underlying22 (hval 0 22 v0 rfl rfl)
 have k0 := h0
 have lt0 : ∀ x ∈ p0, x.block < W.heap.size := by obtain ⟨m, hm⟩ := k0; exact DataW.trod_lt m _ _ _ hm
 obtain ⟨z0, w0, u0⟩ := Go.L.opensU_val ou22 (fun _ => rfl) rfl h0 (ubOk (H := H)) b0
 obtain ⟨a1, len1, cap1, rfl⟩ := okWide_slice Try.underlying27 (hval 1 27 v1 rfl rfl)
 have k1 := h1
 have lt1 : ∀ x ∈ p1, x.block < W.heap.size := by obtain ⟨m, hm⟩ := k1; exact DataW.trod_lt m _ _ _ hm
 obtain ⟨z1, w1, u1⟩ := Go.L.opensU_val ou27 (fun _ => rfl) rfl h1 (ubOk (H := H)) b1
 obtain ⟨a2, rfl, rfl, rfl, w2⟩ := open_int Try.underlying3 (hval 2 3 v2 rfl rfl) h2
 obtain ⟨a3, rfl, rfl, rfl, w3⟩ := open_int Try.underlying3 (hval 3 3 v3 rfl rfl) h3
 clear hA0
 refine (walk a0 len0 cap0 z0 a1 len1 cap1 z1 a2 a3 W w0 w1 w2 w3 u0 u1).mono fun e W' ⟨he, bel⟩ => ?_
 subst he
 exact ⟨_, rfl, _, _, _, [], _, [], hW', trodAll_mk1 (shut_bool Try.underlying4 _), (trodAll_cons_mk (Below.trod laidOut (by kernel_rfl) (of_decide_eq_true (by kernel_rfl)) k0 bel lt0) (trodAll_cons_mk (Below.trod laidOut (by kernel_rfl) (of_decide_eq_true (by kernel_rfl)) k1 bel lt1) (trodAll_cons_mk (shut_int Try.underlying3 w2) (trodAll_cons_mk (shut_int Try.underlying3 w3) trodAll_mk0)))), rfl, bel.frame _, fun h => by cases h⟩


set_option maxRecDepth 100000 in
theorem lifted (os : Os) (started : os.Started) (H : Type) (enc : TypeId × Value → H) (F : Stop.Interp) :
  ReturnsInHanded {} Try.checked os 5 .any ((Rows.OpenSpec.upto Rows.marklogExactSpec).pre6 enc Try.prog Try.f5 Rows.marklogExactUptoRow.domain false) (((Rows.OpenSpec.upto Rows.marklogExactSpec).at F).post enc Try.prog Try.f5 false true false false) := by
 refine returnsInHanded_of_cond (C := Try.checked) (s := Rows.OpenSpec.upto Rows.marklogExactSpec) (k := Rows.uptoSmall) rfl own started (by kernel_rfl) Try.func5
  (OpenSpec.witness (enc := enc) (C := Try.checked) (s := Rows.OpenSpec.upto Rows.marklogExactSpec) (k := Rows.uptoSmall) rfl false ⟨#[], #[.slice none 0 0, .slice none 0 0, .int .i64 0, .int .i64 0], []⟩ 8 (by kernel_rfl) (by kernel_rfl) (by kernel_rfl)
   (x := ([.nil, .nil, .lit (.int .i64 0), .lit (.int .i64 0)], [], [])) (by kernel_rfl) rfl (by kernel_rfl)) ?_
 intro W base args ds gs before hval hW _ hk _
 exact contract H enc W base args ds gs before hval hW hk

theorem over : Rows.marklogExactUptoRow.holds Try.pinned (Rows.OpenSpec.upto Rows.marklogExactSpec) :=
 OpenClaim.holds_of_cond 5 Try.f5 rfl rfl rfl rfl rfl rfl rfl ⟨rfl, rfl, rfl, rfl, rfl⟩ rfl rfl rfl rfl rfl (by kernel_rfl) Try.func5 (by kernel_rfl)
  (of_decide_eq_true (by kernel_rfl)) (by unfold Func.isWrapper; first | (rw [if_pos (by decide +kernel)]; kernel_rfl) | (rw [if_neg (by decide +kernel)]; exact ⟨rfl, rfl⟩))
  (fun os started H enc _ F => lifted os started H enc F)

theorem proved : Rows.MarklogExactUptoSaid := over
#print axioms proved
end Go.Proofs.Ytbicmjeldappjaa.marklogExact
