/- Walks, printed by program (gen.py): each function computes its plain function. -/
import Derived.Test.YtapnjifcfljmmaaW3
set_option linter.unusedVariables false
set_option linter.unusedSimpArgs false
set_option maxRecDepth 100000
namespace Go.Proofs.Ytapnjifcfljmmaa
open Go.L Go.Sh
theorem GTape_Ints_ok {F : Nat} {p0 : GTape} {p1 : Int} {p2 : Int} {p3 : Int} {r : List Int × GTape} (h : GTape_Ints F p0 p1 p2 p3 = some r) : LCall Try.prog 30 [.ptr 7 0, .int .i64 p1, .int .i64 p2, .int .i64 p3] (Mem.of [(7, .box [.lst 1 (List.map (LV.int .i64) p0.L), .int .i64 p0.At])]) (.lst 1 (List.map (LV.int .i64) r.1)) (Mem.of [(7, .box [.lst 1 (List.map (LV.int .i64) r.2.L), .int .i64 r.2.At])]) := by
  unfold GTape_Ints at h
  refine bodyT Try.func30 rfl (by rw [Try.ntmps30]; exact Nat.le_of_ble_eq_true rfl) ?_
  refine LH.wk (Wk.to (el := [(0, .ptr 7 0), (1, .int .i64 p1), (2, .int .i64 p2), (3, .int .i64 p3)]) (ml := [(7, .box [.lst 1 (List.map (LV.int .i64) p0.L), .int .i64 p0.At])]) (eC rfl (eC rfl (eC rfl (eC rfl eN)))) (mC rfl mN) rfl (prK rfl)) ?_
  refine LH.seqT [(0, .ptr 7 0), (1, .int .i64 p1), (2, .int .i64 p2), (3, .int .i64 p3)] [(7, .box [.lst 1 (List.map (LV.int .i64) p0.L), .int .i64 p0.At])] rfl ?_ ?_
  · refine sN (oA (v := .nil) rfl ?_)
    exact s0 (Wk.to (eC rfl (eC rfl (eC rfl (eC rfl eN)))) (mC rfl mN) rfl (prK rfl))
  refine LH.seqT [(0, .ptr 7 0), (1, .int .i64 p1), (2, .int .i64 p2), (3, .int .i64 p3), (9, .nil)] [(7, .box [.lst 1 (List.map (LV.int .i64) p0.L), .int .i64 p0.At])] rfl ?_ ?_
  · refine sN (oA (v := .nil) rfl ?_)
    exact s0 (Wk.to (eC rfl (eC rfl (eC rfl (eC rfl (eC rfl eN))))) (mC rfl mN) rfl (prK rfl))
  refine LH.seq ?_
  obtain ⟨r1, hr1, h⟩ := bindS h
  refine LH.seqT [(0, .ptr 7 0), (2, .int .i64 p2), (3, .int .i64 p3), (9, .nil), (10, .int .i64 r1.1)] [(7, .box [.lst 1 (List.map (LV.int .i64) r1.2.L), .int .i64 r1.2.At])] rfl ?_ ?_
  · refine sN (oM (v := (.ptr _ _)) rfl ?_)
    refine sN (oM (v := (.int _ _)) rfl ?_)
    refine sN (oCM (args := [.ptr 7 0, .int .i64 0, .int .i64 p1]) (ml := [(7, .box [.lst 1 (List.map (LV.int .i64) p0.L), .int .i64 p0.At])]) (ml' := [(7, .box [.lst 1 (List.map (LV.int .i64) r1.2.L), .int .i64 r1.2.At])]) rfl isF26 rfl (sbR (sbR (sbR sbN))) (GTape_Range_ok hr1) (mC rfl mN) (newI rfl newN) rfl ?_)
    refine sN (oA (v := (.int _ _)) rfl ?_)
    exact s0 (Wk.to (eC rfl (eC rfl (eC rfl (eC rfl (eC rfl eN))))) (mC rfl mN) rfl (prK rfl))
  refine LH.block ?_
  refine LH.wk ((Wk.trans (Wk.to (el := [(0, .ptr 7 0), (2, .int .i64 p2), (3, .int .i64 p3), (9, .nil), (10, .int .i64 r1.1)]) (ml := [(7, .box [.lst 1 (List.map (LV.int .i64) r1.2.L), .int .i64 r1.2.At])]) (eC rfl (eC rfl (eC rfl (eC rfl (eC rfl eN))))) (mC rfl mN) rfl (prK rfl)) (Wk.trans (Wk.to (el := [(0, .ptr 7 0), (2, .int .i64 p2), (3, .int .i64 p3), (9, .nil), (10, .int .i64 r1.1)]) (ml := [(7, .box [.lst 1 (List.map (LV.int .i64) r1.2.L), .int .i64 r1.2.At])]) (eC rfl (eC rfl (eC rfl (eC rfl (eC rfl eN))))) (mC rfl mN) rfl (prK rfl)) (Wk.trans (Wk.ownL (el' := [(0, .ptr 7 0), (2, .int .i64 p2), (3, .int .i64 p3), (9, .arr 124 (List.length ([] : List Int))), (10, .int .i64 r1.1)]) 124 3 1 rfl rfl (wK (wK (wK (wO (wK wN)))))) (Wk.to (el := [(0, .ptr 7 0), (2, .int .i64 p2), (3, .int .i64 p3), (9, .arr 124 (List.length ([] : List Int))), (10, .int .i64 r1.1)]) (ml := [(7, .box [.lst 1 (List.map (LV.int .i64) r1.2.L), .int .i64 r1.2.At]), (124, .arr 3 1 (List.map (LV.int .i64) ([] : List Int)))]) (eC rfl (eC rfl (eC rfl (eC rfl (eC rfl eN))))) (mC rfl (mC rfl mN)) rfl (prK rfl)))))) ?_
  refine LH.loop (fun n e m => ∃ (n2 : Int) (l3 : List Int) (n4 : Int) (l5 : List Int), GTape_Ints_L1 p2 p3 n n2 l3 n4 l5 = some r ∧ e = Env.of [(0, .ptr 7 0), (2, .int .i64 p2), (3, .int .i64 p3), (9, .arr 124 (List.length l5)), (10, .int .i64 n2)] ∧ m = Mem.of [(7, .box [.lst 1 (List.map (LV.int .i64) l3), .int .i64 n4]), (124, .arr 3 1 (List.map (LV.int .i64) l5))]) F ⟨r1.1, r1.2.L, r1.2.At, ([] : List Int), h, rfl, rfl⟩ ?_
  clear h
  rintro n e m ⟨n2, l3, n4, l5, h, rfl, rfl⟩
  rcases n with _ | n
  · cases (show Option.none = some _ from h)
  obtain ⟨rec1, hrec1⟩ : ∃ f, f = GTape_Ints_L1 p2 p3 n := ⟨_, rfl⟩
  replace h : GTape_Ints_L1_B p2 p3 rec1 n2 l3 n4 l5 = some r := hrec1 ▸ h
  unfold GTape_Ints_L1_B at h
  refine LH.seq ?_
  refine LH.seqT [(0, .ptr 7 0), (2, .int .i64 p2), (3, .int .i64 p3), (9, .arr 124 (List.length l5)), (10, .int .i64 n2), (15, .bool (decide (n2 > 0)))] [(7, .box [.lst 1 (List.map (LV.int .i64) l3), .int .i64 n4]), (124, .arr 3 1 (List.map (LV.int .i64) l5))] rfl ?_ ?_
  · refine sN (oM (v := (.int _ _)) rfl ?_)
    refine sN (oGt rfl rfl ?_)
    exact s0 (Wk.to (eC rfl (eC rfl (eC rfl (eC rfl (eC rfl (eC rfl eN)))))) (mC rfl (mC rfl mN)) rfl (prK rfl))
  refine LH.cond (t := (decide (n2 > 0))) rfl (fun hc6 => ?_) (fun hc6 => ?_)
  · replace h := iteT h hc6
    refine LH.skip ?_
    refine thenN ?_
    refine LH.wk (Wk.to (el := [(0, .ptr 7 0), (2, .int .i64 p2), (3, .int .i64 p3), (9, .arr 124 (List.length l5)), (10, .int .i64 n2)]) (ml := [(7, .box [.lst 1 (List.map (LV.int .i64) l3), .int .i64 n4]), (124, .arr 3 1 (List.map (LV.int .i64) l5))]) (eC rfl (eC rfl (eC rfl (eC rfl (eC rfl eN))))) (mC rfl (mC rfl mN)) rfl (prK rfl)) ?_
    refine LH.seq ?_
    refine LH.block ?_
    obtain ⟨r7, hr7, h⟩ := bindS h
    obtain ⟨v8, hv8, h⟩ := bindS h
    refine LH.loneT [(0, .ptr 7 0), (2, .int .i64 p2), (3, .int .i64 p3), (9, .arr 124 (List.length v8)), (10, .int .i64 n2)] [(7, .box [.lst 1 (List.map (LV.int .i64) r7.2.L), .int .i64 r7.2.At]), (124, .arr 3 1 (List.map (LV.int .i64) v8))] rfl ?_ ?_
    · refine sN (oM (v := (.arr _ _)) rfl ?_)
      refine sN (oM (v := (.ptr _ _)) rfl ?_)
      refine sN (oM (v := (.int _ _)) rfl ?_)
      refine sN (oM (v := (.int _ _)) rfl ?_)
      refine sN (oCM (args := [.ptr 7 0, .int .i64 p2, .int .i64 p3]) (ml := [(7, .box [.lst 1 (List.map (LV.int .i64) l3), .int .i64 n4])]) (ml' := [(7, .box [.lst 1 (List.map (LV.int .i64) r7.2.L), .int .i64 r7.2.At])]) rfl isF26 rfl (sbR (sbR (sbR sbN))) (GTape_Range_ok hr7) (mC rfl mN) (newI rfl newN) rfl ?_)
      refine sN (oBS (f := (LV.int .i64)) (ys := [r7.1]) te22 tr3 ts3 rfl rfl rfl okI ?_)
      refine sN (oAp (f := (LV.int .i64)) te22 tr3 ts3 rfl rfl (prN rfl) rfl hv8 ?_)
      refine sN (oA (v := (.arr _ _)) rfl ?_)
      exact s0 (Wk.to (eC rfl (eC rfl (eC rfl (eC rfl (eC rfl eN))))) (mC rfl (mC rfl mN)) rfl (prK rfl))
    refine blockN ?_
    refine thenN ?_
    refine LH.loneT [(0, .ptr 7 0), (2, .int .i64 p2), (3, .int .i64 p3), (9, .arr 124 (List.length v8)), (10, .int .i64 (i64 (n2 - 1)))] [(7, .box [.lst 1 (List.map (LV.int .i64) r7.2.L), .int .i64 r7.2.At]), (124, .arr 3 1 (List.map (LV.int .i64) v8))] rfl ?_ ?_
    · refine sN (oM (v := (.int _ _)) rfl ?_)
      refine sN (oSub rfl rfl ?_)
      refine sN (oA (v := (.int _ _)) rfl ?_)
      exact s0 (Wk.to (eC rfl (eC rfl (eC rfl (eC rfl (eC rfl eN))))) (mC rfl (mC rfl mN)) rfl (prK rfl))
    exact roundN (e' := Env.of [(0, .ptr 7 0), (2, .int .i64 p2), (3, .int .i64 p3), (9, .arr 124 (List.length v8)), (10, .int .i64 (i64 (n2 - 1)))]) (m' := Mem.of [(7, .box [.lst 1 (List.map (LV.int .i64) r7.2.L), .int .i64 r7.2.At]), (124, .arr 3 1 (List.map (LV.int .i64) v8))]) (Wk.to (eC rfl (eC rfl (eC rfl (eC rfl (eC rfl eN))))) (mC rfl (mC rfl mN)) rfl (prK rfl)) ⟨(i64 (n2 - 1)), r7.2.L, r7.2.At, v8, hrec1 ▸ h, rfl, rfl⟩
  replace h := iteF h hc6
  refine LH.exit ?_
  refine thenX ?_
  refine roundX ?_
  refine blockH ?_
  refine thenN ?_
  refine LH.wk ((Wk.trans (Wk.to (el := [(9, .arr 124 (List.length l5))]) (ml := [(7, .box [.lst 1 (List.map (LV.int .i64) l3), .int .i64 n4]), (124, .arr 3 1 (List.map (LV.int .i64) l5))]) (eC rfl eN) (mC rfl (mC rfl mN)) rfl (prK rfl)) (Wk.trans (Wk.frzL (f := (LV.int .i64)) (el' := [(9, .lst 1 (List.map (LV.int .i64) l5))]) 124 3 1 l5 rfl rfl (prN rfl) (fZ fN)) (Wk.to (el := [(9, .lst 1 (List.map (LV.int .i64) l5))]) (ml := [(7, .box [.lst 1 (List.map (LV.int .i64) l3), .int .i64 n4])]) (eC rfl eN) (mC rfl mN) rfl (prK rfl))))) ?_
  refine LH.seqT [(8, .lst 1 (List.map (LV.int .i64) l5))] [(7, .box [.lst 1 (List.map (LV.int .i64) l3), .int .i64 n4])] rfl ?_ ?_
  · refine sN (oM (v := (.lst _ _)) rfl ?_)
    refine sN (oA (v := (.lst _ _)) rfl ?_)
    exact s0 (Wk.to (eC rfl eN) (mC rfl mN) rfl (prK rfl))
  refine LH.ret ?_
  obtain rfl := Option.some.inj h
  exact retE (congrArg Array.toList Try.results30) (lrT rfl (lr0 ⟨memN (mC rfl mN), rfl, prK rfl, Sub.rfl⟩))

theorem attendance_Compare_ok {F : Nat} {p0 : List GAttendance} {p1 : List Int} {r : List Int × List Int} (h : attendance_Compare F p0 p1 = some r) : LCall Try.prog 31 [.lst 5 (List.map GAttendance.lv p0), .lst 1 (List.map (LV.int .i64) p1)] (Mem.of []) (.tup [.lst 1 (List.map (LV.int .i64) r.1), .lst 1 (List.map (LV.int .i64) r.2)]) (Mem.of []) := by
  unfold attendance_Compare at h
  refine bodyT Try.func31 rfl (by rw [Try.ntmps31]; exact Nat.le_of_ble_eq_true rfl) ?_
  refine LH.wk (Wk.to (el := [(0, .lst 5 (List.map GAttendance.lv p0)), (1, .lst 1 (List.map (LV.int .i64) p1))]) (ml := []) (eC rfl (eC rfl eN)) mN rfl (prK rfl)) ?_
  refine LH.seqT [(0, .lst 5 (List.map GAttendance.lv p0)), (1, .lst 1 (List.map (LV.int .i64) p1)), (4, .nil), (5, .nil)] [] rfl ?_ ?_
  · refine sN (oA (v := .nil) rfl ?_)
    refine sN (oA (v := .nil) rfl ?_)
    exact s0 (Wk.to (eC rfl (eC rfl (eC rfl (eC rfl eN)))) mN rfl (prK rfl))
  refine LH.seqT [(0, .lst 5 (List.map GAttendance.lv p0)), (1, .lst 1 (List.map (LV.int .i64) p1)), (4, .nil), (5, .nil), (6, .mp 112)] [(112, .map 3 4 (mlv (LV.int .i64) LV.bool ([] : List (Int × Bool))))] rfl ?_ ?_
  · refine sX ((ok_makeMap (kt := 3) (vt := 4) (id := 112) rfl).ok) ?_
    refine sN (oA (v := (.mp _)) rfl ?_)
    exact s0 (Wk.to (eC rfl (eC rfl (eC rfl (eC rfl (eC rfl eN))))) (mC rfl mN) rfl (prK rfl))
  refine LH.seq ?_
  refine LH.seqT [(0, .lst 5 (List.map GAttendance.lv p0)), (4, .nil), (5, .nil), (6, .mp 112), (13, .lst 1 (List.map (LV.int .i64) p1)), (14, .int .i64 (p1.length : Int)), (15, .int .i64 0)] [(112, .map 3 4 (mlv (LV.int .i64) LV.bool ([] : List (Int × Bool))))] rfl ?_ ?_
  · refine sN (oM (v := (.lst _ _)) rfl ?_)
    refine sN (oLnL (f := (LV.int .i64)) te22 rfl ?_)
    refine sN (oM (v := (.int _ _)) rfl ?_)
    exact s0 (Wk.to (eC rfl (eC rfl (eC rfl (eC rfl (eC rfl (eC rfl (eC rfl eN))))))) (mC rfl mN) rfl (prK rfl))
  refine LH.block ?_
  refine LH.loop (fun n e m => ∃ (n1 : Int) (m2 : List (Int × Bool)), attendance_Compare_L1 F p0 p1 n n1 m2 = some r ∧ e = Env.of [(0, .lst 5 (List.map GAttendance.lv p0)), (4, .nil), (5, .nil), (6, .mp 112), (13, .lst 1 (List.map (LV.int .i64) p1)), (14, .int .i64 (p1.length : Int)), (15, .int .i64 n1)] ∧ m = Mem.of [(112, .map 3 4 (mlv (LV.int .i64) LV.bool m2))]) F ⟨0, ([] : List (Int × Bool)), h, rfl, rfl⟩ ?_
  clear h
  rintro n e m ⟨n1, m2, h, rfl, rfl⟩
  rcases n with _ | n
  · cases (show Option.none = some _ from h)
  obtain ⟨rec1, hrec1⟩ : ∃ f, f = attendance_Compare_L1 F p0 p1 n := ⟨_, rfl⟩
  replace h : attendance_Compare_L1_B F p0 p1 rec1 n1 m2 = some r := hrec1 ▸ h
  unfold attendance_Compare_L1_B at h
  refine LH.seqT [(0, .lst 5 (List.map GAttendance.lv p0)), (4, .nil), (5, .nil), (6, .mp 112), (13, .lst 1 (List.map (LV.int .i64) p1)), (14, .int .i64 (p1.length : Int)), (15, .int .i64 n1), (16, .bool (decide (n1 < (p1.length : Int))))] [(112, .map 3 4 (mlv (LV.int .i64) LV.bool m2))] rfl ?_ ?_
  · refine sN (oLt rfl rfl ?_)
    exact s0 (Wk.to (eC rfl (eC rfl (eC rfl (eC rfl (eC rfl (eC rfl (eC rfl (eC rfl eN)))))))) (mC rfl mN) rfl (prK rfl))
  refine LH.seq ?_
  refine LH.cond (t := (decide (n1 < (p1.length : Int)))) rfl (fun hc3 => ?_) (fun hc3 => ?_)
  · replace h := iteT h hc3
    refine LH.skip ?_
    refine thenN ?_
    refine LH.wk (Wk.to (el := [(0, .lst 5 (List.map GAttendance.lv p0)), (4, .nil), (5, .nil), (6, .mp 112), (13, .lst 1 (List.map (LV.int .i64) p1)), (14, .int .i64 (p1.length : Int)), (15, .int .i64 n1)]) (ml := [(112, .map 3 4 (mlv (LV.int .i64) LV.bool m2))]) (eC rfl (eC rfl (eC rfl (eC rfl (eC rfl (eC rfl (eC rfl eN))))))) (mC rfl mN) rfl (prK rfl)) ?_
    refine LH.seq ?_
    refine LH.block ?_
    obtain ⟨x4, hx4, h⟩ := bindS h
    refine LH.seqT [(0, .lst 5 (List.map GAttendance.lv p0)), (4, .nil), (5, .nil), (6, .mp 112), (8, .int .i64 x4), (13, .lst 1 (List.map (LV.int .i64) p1)), (14, .int .i64 (p1.length : Int)), (15, .int .i64 n1)] [(112, .map 3 4 (mlv (LV.int .i64) LV.bool m2))] rfl ?_ ?_
    · refine sN (oIx (f := (LV.int .i64)) te22 tk3 ts3 rfl rfl okI hx4 rfl ?_)
      refine sN (oLd rfl tk3 ta3 ?_)
      refine sN (oA (v := (.int _ _)) rfl ?_)
      exact s0 (Wk.to (eC rfl (eC rfl (eC rfl (eC rfl (eC rfl (eC rfl (eC rfl (eC rfl eN)))))))) (mC rfl mN) rfl (prK rfl))
    refine LH.loneT [(0, .lst 5 (List.map GAttendance.lv p0)), (4, .nil), (5, .nil), (6, .mp 112), (13, .lst 1 (List.map (LV.int .i64) p1)), (14, .int .i64 (p1.length : Int)), (15, .int .i64 n1)] [(112, .map 3 4 (mlv (LV.int .i64) LV.bool (mput m2 x4 true)))] rfl ?_ ?_
    · refine sN (oM (v := (.mp _)) rfl ?_)
      refine sN (oM (v := (.int _ _)) rfl ?_)
      refine sX_ ((ok_update (f := (LV.int .i64)) (g := LV.bool) (xs := m2) (key := x4) (val := true) (.inl rfl) tm83 kok3 kf3 (fun _ => rfl) rfl rfl rfl rfl).ok) ?_
      exact s0 (Wk.to (eC rfl (eC rfl (eC rfl (eC rfl (eC rfl (eC rfl (eC rfl eN))))))) (mC rfl mN) rfl (prK rfl))
    refine blockN ?_
    refine thenN ?_
    refine LH.loneT [(0, .lst 5 (List.map GAttendance.lv p0)), (4, .nil), (5, .nil), (6, .mp 112), (13, .lst 1 (List.map (LV.int .i64) p1)), (14, .int .i64 (p1.length : Int)), (15, .int .i64 (i64 (n1 + 1)))] [(112, .map 3 4 (mlv (LV.int .i64) LV.bool (mput m2 x4 true)))] rfl ?_ ?_
    · refine sN (oAdd rfl rfl ?_)
      refine sN (oM (v := (.int _ _)) rfl ?_)
      exact s0 (Wk.to (eC rfl (eC rfl (eC rfl (eC rfl (eC rfl (eC rfl (eC rfl eN))))))) (mC rfl mN) rfl (prK rfl))
    exact roundN (e' := Env.of [(0, .lst 5 (List.map GAttendance.lv p0)), (4, .nil), (5, .nil), (6, .mp 112), (13, .lst 1 (List.map (LV.int .i64) p1)), (14, .int .i64 (p1.length : Int)), (15, .int .i64 (i64 (n1 + 1)))]) (m' := Mem.of [(112, .map 3 4 (mlv (LV.int .i64) LV.bool (mput m2 x4 true)))]) (Wk.to (eC rfl (eC rfl (eC rfl (eC rfl (eC rfl (eC rfl (eC rfl eN))))))) (mC rfl mN) rfl (prK rfl)) ⟨(i64 (n1 + 1)), (mput m2 x4 true), hrec1 ▸ h, rfl, rfl⟩
  replace h := iteF h hc3
  refine LH.exit ?_
  refine thenX ?_
  refine roundX ?_
  refine blockH ?_
  refine thenN ?_
  refine LH.wk (Wk.to (el := [(0, .lst 5 (List.map GAttendance.lv p0)), (4, .nil), (5, .nil), (6, .mp 112)]) (ml := [(112, .map 3 4 (mlv (LV.int .i64) LV.bool m2))]) (eC rfl (eC rfl (eC rfl (eC rfl eN)))) (mC rfl mN) rfl (prK rfl)) ?_
  refine LH.seq ?_
  refine LH.seqT [(4, .nil), (5, .nil), (6, .mp 112), (22, .lst 5 (List.map GAttendance.lv p0)), (23, .int .i64 (p0.length : Int)), (24, .int .i64 0)] [(112, .map 3 4 (mlv (LV.int .i64) LV.bool m2))] rfl ?_ ?_
  · refine sN (oM (v := (.lst _ _)) rfl ?_)
    refine sN (oLnL (f := GAttendance.lv) te47 rfl ?_)
    refine sN (oM (v := (.int _ _)) rfl ?_)
    exact s0 (Wk.to (eC rfl (eC rfl (eC rfl (eC rfl (eC rfl (eC rfl eN)))))) (mC rfl mN) rfl (prK rfl))
  refine LH.block ?_
  refine LH.wk ((Wk.trans (Wk.to (el := [(4, .nil), (5, .nil), (6, .mp 112), (22, .lst 5 (List.map GAttendance.lv p0)), (23, .int .i64 (p0.length : Int)), (24, .int .i64 0)]) (ml := [(112, .map 3 4 (mlv (LV.int .i64) LV.bool m2))]) (eC rfl (eC rfl (eC rfl (eC rfl (eC rfl (eC rfl eN)))))) (mC rfl mN) rfl (prK rfl)) (Wk.trans (Wk.to (el := [(4, .nil), (5, .nil), (6, .mp 112), (22, .lst 5 (List.map GAttendance.lv p0)), (23, .int .i64 (p0.length : Int)), (24, .int .i64 0)]) (ml := [(112, .map 3 4 (mlv (LV.int .i64) LV.bool m2))]) (eC rfl (eC rfl (eC rfl (eC rfl (eC rfl (eC rfl eN)))))) (mC rfl mN) rfl (prK rfl)) (Wk.trans (Wk.ownL (el' := [(4, .arr 144 (List.length ([] : List Int))), (5, .nil), (6, .mp 112), (22, .lst 5 (List.map GAttendance.lv p0)), (23, .int .i64 (p0.length : Int)), (24, .int .i64 0)]) 144 3 1 rfl rfl (wO (wK (wK (wK (wK (wK wN))))))) (Wk.trans (Wk.to (el := [(4, .arr 144 (List.length ([] : List Int))), (5, .nil), (6, .mp 112), (22, .lst 5 (List.map GAttendance.lv p0)), (23, .int .i64 (p0.length : Int)), (24, .int .i64 0)]) (ml := [(112, .map 3 4 (mlv (LV.int .i64) LV.bool m2)), (144, .arr 3 1 (List.map (LV.int .i64) ([] : List Int)))]) (eC rfl (eC rfl (eC rfl (eC rfl (eC rfl (eC rfl eN)))))) (mC rfl (mC rfl mN)) rfl (prK rfl)) (Wk.trans (Wk.ownL (el' := [(4, .arr 144 (List.length ([] : List Int))), (5, .arr 158 (List.length ([] : List Int))), (6, .mp 112), (22, .lst 5 (List.map GAttendance.lv p0)), (23, .int .i64 (p0.length : Int)), (24, .int .i64 0)]) 158 3 1 rfl rfl (wK (wO (wK (wK (wK (wK wN))))))) (Wk.to (el := [(4, .arr 144 (List.length ([] : List Int))), (5, .arr 158 (List.length ([] : List Int))), (6, .mp 112), (22, .lst 5 (List.map GAttendance.lv p0)), (23, .int .i64 (p0.length : Int)), (24, .int .i64 0)]) (ml := [(112, .map 3 4 (mlv (LV.int .i64) LV.bool m2)), (144, .arr 3 1 (List.map (LV.int .i64) ([] : List Int))), (158, .arr 3 1 (List.map (LV.int .i64) ([] : List Int)))]) (eC rfl (eC rfl (eC rfl (eC rfl (eC rfl (eC rfl eN)))))) (mC rfl (mC rfl (mC rfl mN))) rfl (prK rfl)))))))) ?_
  refine LH.loop (fun n e m => ∃ (n5 : Int) (l6 : List Int) (l7 : List Int), attendance_Compare_L2 p0 m2 n n5 l6 l7 = some r ∧ e = Env.of [(4, .arr 144 (List.length l6)), (5, .arr 158 (List.length l7)), (6, .mp 112), (22, .lst 5 (List.map GAttendance.lv p0)), (23, .int .i64 (p0.length : Int)), (24, .int .i64 n5)] ∧ m = Mem.of [(112, .map 3 4 (mlv (LV.int .i64) LV.bool m2)), (144, .arr 3 1 (List.map (LV.int .i64) l6)), (158, .arr 3 1 (List.map (LV.int .i64) l7))]) F ⟨0, ([] : List Int), ([] : List Int), h, rfl, rfl⟩ ?_
  clear h
  rintro n e m ⟨n5, l6, l7, h, rfl, rfl⟩
  rcases n with _ | n
  · cases (show Option.none = some _ from h)
  obtain ⟨rec2, hrec2⟩ : ∃ f, f = attendance_Compare_L2 p0 m2 n := ⟨_, rfl⟩
  replace h : attendance_Compare_L2_B p0 m2 rec2 n5 l6 l7 = some r := hrec2 ▸ h
  unfold attendance_Compare_L2_B at h
  refine LH.seqT [(4, .arr 144 (List.length l6)), (5, .arr 158 (List.length l7)), (6, .mp 112), (22, .lst 5 (List.map GAttendance.lv p0)), (23, .int .i64 (p0.length : Int)), (24, .int .i64 n5), (25, .bool (decide (n5 < (p0.length : Int))))] [(112, .map 3 4 (mlv (LV.int .i64) LV.bool m2)), (144, .arr 3 1 (List.map (LV.int .i64) l6)), (158, .arr 3 1 (List.map (LV.int .i64) l7))] rfl ?_ ?_
  · refine sN (oLt rfl rfl ?_)
    exact s0 (Wk.to (eC rfl (eC rfl (eC rfl (eC rfl (eC rfl (eC rfl (eC rfl eN))))))) (mC rfl (mC rfl (mC rfl mN))) rfl (prK rfl))
  refine LH.seq ?_
  refine LH.cond (t := (decide (n5 < (p0.length : Int)))) rfl (fun hc8 => ?_) (fun hc8 => ?_)
  · replace h := iteT h hc8
    refine LH.skip ?_
    refine thenN ?_
    refine LH.wk (Wk.to (el := [(4, .arr 144 (List.length l6)), (5, .arr 158 (List.length l7)), (6, .mp 112), (22, .lst 5 (List.map GAttendance.lv p0)), (23, .int .i64 (p0.length : Int)), (24, .int .i64 n5)]) (ml := [(112, .map 3 4 (mlv (LV.int .i64) LV.bool m2)), (144, .arr 3 1 (List.map (LV.int .i64) l6)), (158, .arr 3 1 (List.map (LV.int .i64) l7))]) (eC rfl (eC rfl (eC rfl (eC rfl (eC rfl (eC rfl eN)))))) (mC rfl (mC rfl (mC rfl mN))) rfl (prK rfl)) ?_
    refine LH.seq ?_
    refine LH.block ?_
    obtain ⟨x9, hx9, h⟩ := bindS h
    refine LH.seqT [(4, .arr 144 (List.length l6)), (5, .arr 158 (List.length l7)), (6, .mp 112), (10, .sptr [.int .i64 x9.Candidate, .int .i64 x9.State, .int .i64 x9.Late, .int .i64 x9.Left, .lst 1 (List.map (LV.int .i64) x9.Incidents)]), (22, .lst 5 (List.map GAttendance.lv p0)), (23, .int .i64 (p0.length : Int)), (24, .int .i64 n5)] [(112, .map 3 4 (mlv (LV.int .i64) LV.bool m2)), (144, .arr 3 1 (List.map (LV.int .i64) l6)), (158, .arr 3 1 (List.map (LV.int .i64) l7))] rfl ?_ ?_
    · refine sN (oIx (f := GAttendance.lv) te47 tk54 ts54 rfl rfl GAttendance.ok hx9 rfl ?_)
      refine sN (oLdA rfl tk54 ta54 ts54 rfl rfl ?_)
      refine sN (oAl (id := 110) rfl tz54 rfl rfl ?_)
      refine s_ (oSt rfl rfl rfl tk54 ts54 rfl rfl rfl ?_)
      exact s0 ((Wk.trans (Wk.to (el := [(4, .arr 144 (List.length l6)), (5, .arr 158 (List.length l7)), (6, .mp 112), (10, .ptr 110 0), (22, .lst 5 (List.map GAttendance.lv p0)), (23, .int .i64 (p0.length : Int)), (24, .int .i64 n5)]) (ml := [(110, .box [.int .i64 x9.Candidate, .int .i64 x9.State, .int .i64 x9.Late, .int .i64 x9.Left, .lst 1 (List.map (LV.int .i64) x9.Incidents)]), (112, .map 3 4 (mlv (LV.int .i64) LV.bool m2)), (144, .arr 3 1 (List.map (LV.int .i64) l6)), (158, .arr 3 1 (List.map (LV.int .i64) l7))]) (eC rfl (eC rfl (eC rfl (eC rfl (eC rfl (eC rfl (eC rfl eN))))))) (mC rfl (mC rfl (mC rfl (mC rfl mN)))) rfl (prK rfl)) (Wk.trans (Wk.frzB 110 [.int .i64 x9.Candidate, .int .i64 x9.State, .int .i64 x9.Late, .int .i64 x9.Left, .lst 1 (List.map (LV.int .i64) x9.Incidents)] rfl rfl rfl (prN rfl)) (Wk.to (eC rfl (eC rfl (eC rfl (eC rfl (eC rfl (eC rfl (eC rfl eN))))))) (mC rfl (mC rfl (mC rfl mN))) rfl (prK rfl)))))
    refine LH.seqT [(4, .arr 144 (List.length l6)), (5, .arr 158 (List.length l7)), (6, .mp 112), (10, .sptr [.int .i64 x9.Candidate, .int .i64 x9.State, .int .i64 x9.Late, .int .i64 x9.Left, .lst 1 (List.map (LV.int .i64) x9.Incidents)]), (11, .bool (x9.State == 1)), (22, .lst 5 (List.map GAttendance.lv p0)), (23, .int .i64 (p0.length : Int)), (24, .int .i64 n5)] [(112, .map 3 4 (mlv (LV.int .i64) LV.bool m2)), (144, .arr 3 1 (List.map (LV.int .i64) l6)), (158, .arr 3 1 (List.map (LV.int .i64) l7))] rfl ?_ ?_
    · refine sN (oFaS tf54_1 tk3 ts3 rfl rfl rfl ?_)
      refine sN (oLd rfl tk3 ta3 ?_)
      refine sN (oEq rfl rfl ?_)
      refine sN (oA (v := (.bool _)) rfl ?_)
      exact s0 (Wk.to (eC rfl (eC rfl (eC rfl (eC rfl (eC rfl (eC rfl (eC rfl (eC rfl eN)))))))) (mC rfl (mC rfl (mC rfl mN))) rfl (prK rfl))
    refine LH.block ?_
    refine LH.seqT [(4, .arr 144 (List.length l6)), (5, .arr 158 (List.length l7)), (6, .mp 112), (10, .sptr [.int .i64 x9.Candidate, .int .i64 x9.State, .int .i64 x9.Late, .int .i64 x9.Left, .lst 1 (List.map (LV.int .i64) x9.Incidents)]), (11, .bool (x9.State == 1)), (22, .lst 5 (List.map GAttendance.lv p0)), (23, .int .i64 (p0.length : Int)), (24, .int .i64 n5), (31, .bool ((x9.State == 1) && (!((mget m2 x9.Candidate).getD false))))] [(112, .map 3 4 (mlv (LV.int .i64) LV.bool m2)), (144, .arr 3 1 (List.map (LV.int .i64) l6)), (158, .arr 3 1 (List.map (LV.int .i64) l7))] rfl ?_ ?_
    · refine sN (oM (v := (.bool _)) rfl ?_)
      refine sN (oM (v := (.bool _)) rfl ?_)
      by_cases hb11 : (x9.State == 1) = true
      · refine sT rfl (congrArg LV.bool hb11) (oM (v := (.mp _)) rfl ?_)
        refine sT rfl (congrArg LV.bool hb11) (oFaS tf54_0 tk3 ts3 rfl rfl rfl ?_)
        refine sT rfl (congrArg LV.bool hb11) (oLd rfl tk3 ta3 ?_)
        refine sXT rfl (congrArg LV.bool hb11) ((ok_lookup (f := (LV.int .i64)) (g := LV.bool) (xs := m2) (key := x9.Candidate) (z := false) tm83 kok3 kf3 rfl rfl rfl tz4).ok) ?_
        refine sT rfl (congrArg LV.bool hb11) (oNot rfl ?_)
        refine sN (oPkT (congrArg LV.bool hb11) (v := (.bool _)) rfl ?_)
        refine sN (oA (v := (.bool _)) rfl ?_)
        exact s0 (Wk.to (eC rfl (eC rfl (eC rfl (eC rfl (eC rfl (eC rfl (eC rfl (eC rfl (eC (congrArg LV.bool (andT hb11)) eN))))))))) (mC rfl (mC rfl (mC rfl mN))) rfl (prK rfl))
      · replace hb11 := bF hb11
        refine sF rfl rfl hb11 ?_
        refine sF rfl rfl hb11 ?_
        refine sF rfl rfl hb11 ?_
        refine sF rfl rfl hb11 ?_
        refine sF rfl rfl hb11 ?_
        refine sN (oPkF (congrArg LV.bool hb11) (v := (.bool _)) rfl ?_)
        refine sN (oA (v := (.bool _)) rfl ?_)
        exact s0 (Wk.to (eC rfl (eC rfl (eC rfl (eC rfl (eC rfl (eC rfl (eC rfl (eC rfl (eC (congrArg LV.bool (andF hb11)) eN))))))))) (mC rfl (mC rfl (mC rfl mN))) rfl (prK rfl))
    refine LH.cond (t := ((x9.State == 1) && (!((mget m2 x9.Candidate).getD false)))) rfl (fun hc12 => ?_) (fun hc12 => ?_)
    · replace h := iteT h hc12
      obtain ⟨v13, hv13, h⟩ := bindS h
      refine LH.loneT [(4, .arr 144 (List.length v13)), (5, .arr 158 (List.length l7)), (6, .mp 112), (22, .lst 5 (List.map GAttendance.lv p0)), (23, .int .i64 (p0.length : Int)), (24, .int .i64 n5)] [(112, .map 3 4 (mlv (LV.int .i64) LV.bool m2)), (144, .arr 3 1 (List.map (LV.int .i64) v13)), (158, .arr 3 1 (List.map (LV.int .i64) l7))] rfl ?_ ?_
      · refine sN (oM (v := (.arr _ _)) rfl ?_)
        refine sN (oFaS tf54_0 tk3 ts3 rfl rfl rfl ?_)
        refine sN (oLd rfl tk3 ta3 ?_)
        refine sN (oBS (f := (LV.int .i64)) (ys := [x9.Candidate]) te22 tr3 ts3 rfl rfl rfl okI ?_)
        refine sN (oAp (f := (LV.int .i64)) te22 tr3 ts3 rfl rfl (prN rfl) rfl hv13 ?_)
        refine sN (oA (v := (.arr _ _)) rfl ?_)
        exact s0 (Wk.to (eC rfl (eC rfl (eC rfl (eC rfl (eC rfl (eC rfl eN)))))) (mC rfl (mC rfl (mC rfl mN))) rfl (prK rfl))
      refine blockN ?_
      refine blockN ?_
      refine thenN ?_
      refine LH.loneT [(4, .arr 144 (List.length v13)), (5, .arr 158 (List.length l7)), (6, .mp 112), (22, .lst 5 (List.map GAttendance.lv p0)), (23, .int .i64 (p0.length : Int)), (24, .int .i64 (i64 (n5 + 1)))] [(112, .map 3 4 (mlv (LV.int .i64) LV.bool m2)), (144, .arr 3 1 (List.map (LV.int .i64) v13)), (158, .arr 3 1 (List.map (LV.int .i64) l7))] rfl ?_ ?_
      · refine sN (oAdd rfl rfl ?_)
        refine sN (oM (v := (.int _ _)) rfl ?_)
        exact s0 (Wk.to (eC rfl (eC rfl (eC rfl (eC rfl (eC rfl (eC rfl eN)))))) (mC rfl (mC rfl (mC rfl mN))) rfl (prK rfl))
      exact roundN (e' := Env.of [(4, .arr 144 (List.length v13)), (5, .arr 158 (List.length l7)), (6, .mp 112), (22, .lst 5 (List.map GAttendance.lv p0)), (23, .int .i64 (p0.length : Int)), (24, .int .i64 (i64 (n5 + 1)))]) (m' := Mem.of [(112, .map 3 4 (mlv (LV.int .i64) LV.bool m2)), (144, .arr 3 1 (List.map (LV.int .i64) v13)), (158, .arr 3 1 (List.map (LV.int .i64) l7))]) (Wk.to (eC rfl (eC rfl (eC rfl (eC rfl (eC rfl (eC rfl eN)))))) (mC rfl (mC rfl (mC rfl mN))) rfl (prK rfl)) ⟨(i64 (n5 + 1)), v13, l7, hrec2 ▸ h, rfl, rfl⟩
    replace h := iteF h hc12
    refine LH.seqT [(4, .arr 144 (List.length l6)), (5, .arr 158 (List.length l7)), (6, .mp 112), (10, .sptr [.int .i64 x9.Candidate, .int .i64 x9.State, .int .i64 x9.Late, .int .i64 x9.Left, .lst 1 (List.map (LV.int .i64) x9.Incidents)]), (22, .lst 5 (List.map GAttendance.lv p0)), (23, .int .i64 (p0.length : Int)), (24, .int .i64 n5), (45, .bool ((!(x9.State == 1)) && ((mget m2 x9.Candidate).getD false)))] [(112, .map 3 4 (mlv (LV.int .i64) LV.bool m2)), (144, .arr 3 1 (List.map (LV.int .i64) l6)), (158, .arr 3 1 (List.map (LV.int .i64) l7))] rfl ?_ ?_
    · refine sN (oM (v := (.bool _)) rfl ?_)
      refine sN (oNot rfl ?_)
      refine sN (oM (v := (.bool _)) rfl ?_)
      by_cases hb15 : (!(x9.State == 1)) = true
      · refine sT rfl (congrArg LV.bool hb15) (oM (v := (.mp _)) rfl ?_)
        refine sT rfl (congrArg LV.bool hb15) (oFaS tf54_0 tk3 ts3 rfl rfl rfl ?_)
        refine sT rfl (congrArg LV.bool hb15) (oLd rfl tk3 ta3 ?_)
        refine sXT rfl (congrArg LV.bool hb15) ((ok_lookup (f := (LV.int .i64)) (g := LV.bool) (xs := m2) (key := x9.Candidate) (z := false) tm83 kok3 kf3 rfl rfl rfl tz4).ok) ?_
        refine sN (oPkT (congrArg LV.bool hb15) (v := (.bool _)) rfl ?_)
        refine sN (oA (v := (.bool _)) rfl ?_)
        exact s0 (Wk.to (eC rfl (eC rfl (eC rfl (eC rfl (eC rfl (eC rfl (eC rfl (eC (congrArg LV.bool (andT hb15)) eN)))))))) (mC rfl (mC rfl (mC rfl mN))) rfl (prK rfl))
      · replace hb15 := bF hb15
        refine sF rfl rfl hb15 ?_
        refine sF rfl rfl hb15 ?_
        refine sF rfl rfl hb15 ?_
        refine sF rfl rfl hb15 ?_
        refine sN (oPkF (congrArg LV.bool hb15) (v := (.bool _)) rfl ?_)
        refine sN (oA (v := (.bool _)) rfl ?_)
        exact s0 (Wk.to (eC rfl (eC rfl (eC rfl (eC rfl (eC rfl (eC rfl (eC rfl (eC (congrArg LV.bool (andF hb15)) eN)))))))) (mC rfl (mC rfl (mC rfl mN))) rfl (prK rfl))
    refine LH.cond (t := ((!(x9.State == 1)) && ((mget m2 x9.Candidate).getD false))) rfl (fun hc16 => ?_) (fun hc16 => ?_)
    · replace h := iteT h hc16
      obtain ⟨v17, hv17, h⟩ := bindS h
      refine LH.loneT [(4, .arr 144 (List.length l6)), (5, .arr 158 (List.length v17)), (6, .mp 112), (22, .lst 5 (List.map GAttendance.lv p0)), (23, .int .i64 (p0.length : Int)), (24, .int .i64 n5)] [(112, .map 3 4 (mlv (LV.int .i64) LV.bool m2)), (144, .arr 3 1 (List.map (LV.int .i64) l6)), (158, .arr 3 1 (List.map (LV.int .i64) v17))] rfl ?_ ?_
      · refine sN (oM (v := (.arr _ _)) rfl ?_)
        refine sN (oFaS tf54_0 tk3 ts3 rfl rfl rfl ?_)
        refine sN (oLd rfl tk3 ta3 ?_)
        refine sN (oBS (f := (LV.int .i64)) (ys := [x9.Candidate]) te22 tr3 ts3 rfl rfl rfl okI ?_)
        refine sN (oAp (f := (LV.int .i64)) te22 tr3 ts3 rfl rfl (prN rfl) rfl hv17 ?_)
        refine sN (oA (v := (.arr _ _)) rfl ?_)
        exact s0 (Wk.to (eC rfl (eC rfl (eC rfl (eC rfl (eC rfl (eC rfl eN)))))) (mC rfl (mC rfl (mC rfl mN))) rfl (prK rfl))
      refine blockN ?_
      refine blockN ?_
      refine thenN ?_
      refine LH.loneT [(4, .arr 144 (List.length l6)), (5, .arr 158 (List.length v17)), (6, .mp 112), (22, .lst 5 (List.map GAttendance.lv p0)), (23, .int .i64 (p0.length : Int)), (24, .int .i64 (i64 (n5 + 1)))] [(112, .map 3 4 (mlv (LV.int .i64) LV.bool m2)), (144, .arr 3 1 (List.map (LV.int .i64) l6)), (158, .arr 3 1 (List.map (LV.int .i64) v17))] rfl ?_ ?_
      · refine sN (oAdd rfl rfl ?_)
        refine sN (oM (v := (.int _ _)) rfl ?_)
        exact s0 (Wk.to (eC rfl (eC rfl (eC rfl (eC rfl (eC rfl (eC rfl eN)))))) (mC rfl (mC rfl (mC rfl mN))) rfl (prK rfl))
      exact roundN (e' := Env.of [(4, .arr 144 (List.length l6)), (5, .arr 158 (List.length v17)), (6, .mp 112), (22, .lst 5 (List.map GAttendance.lv p0)), (23, .int .i64 (p0.length : Int)), (24, .int .i64 (i64 (n5 + 1)))]) (m' := Mem.of [(112, .map 3 4 (mlv (LV.int .i64) LV.bool m2)), (144, .arr 3 1 (List.map (LV.int .i64) l6)), (158, .arr 3 1 (List.map (LV.int .i64) v17))]) (Wk.to (eC rfl (eC rfl (eC rfl (eC rfl (eC rfl (eC rfl eN)))))) (mC rfl (mC rfl (mC rfl mN))) rfl (prK rfl)) ⟨(i64 (n5 + 1)), l6, v17, hrec2 ▸ h, rfl, rfl⟩
    replace h := iteF h hc16
    refine LH.skip ?_
    refine blockN ?_
    refine blockN ?_
    refine thenN ?_
    refine LH.wk (Wk.to (el := [(4, .arr 144 (List.length l6)), (5, .arr 158 (List.length l7)), (6, .mp 112), (22, .lst 5 (List.map GAttendance.lv p0)), (23, .int .i64 (p0.length : Int)), (24, .int .i64 n5)]) (ml := [(112, .map 3 4 (mlv (LV.int .i64) LV.bool m2)), (144, .arr 3 1 (List.map (LV.int .i64) l6)), (158, .arr 3 1 (List.map (LV.int .i64) l7))]) (eC rfl (eC rfl (eC rfl (eC rfl (eC rfl (eC rfl eN)))))) (mC rfl (mC rfl (mC rfl mN))) rfl (prK rfl)) ?_
    refine LH.loneT [(4, .arr 144 (List.length l6)), (5, .arr 158 (List.length l7)), (6, .mp 112), (22, .lst 5 (List.map GAttendance.lv p0)), (23, .int .i64 (p0.length : Int)), (24, .int .i64 (i64 (n5 + 1)))] [(112, .map 3 4 (mlv (LV.int .i64) LV.bool m2)), (144, .arr 3 1 (List.map (LV.int .i64) l6)), (158, .arr 3 1 (List.map (LV.int .i64) l7))] rfl ?_ ?_
    · refine sN (oAdd rfl rfl ?_)
      refine sN (oM (v := (.int _ _)) rfl ?_)
      exact s0 (Wk.to (eC rfl (eC rfl (eC rfl (eC rfl (eC rfl (eC rfl eN)))))) (mC rfl (mC rfl (mC rfl mN))) rfl (prK rfl))
    exact roundN (e' := Env.of [(4, .arr 144 (List.length l6)), (5, .arr 158 (List.length l7)), (6, .mp 112), (22, .lst 5 (List.map GAttendance.lv p0)), (23, .int .i64 (p0.length : Int)), (24, .int .i64 (i64 (n5 + 1)))]) (m' := Mem.of [(112, .map 3 4 (mlv (LV.int .i64) LV.bool m2)), (144, .arr 3 1 (List.map (LV.int .i64) l6)), (158, .arr 3 1 (List.map (LV.int .i64) l7))]) (Wk.to (eC rfl (eC rfl (eC rfl (eC rfl (eC rfl (eC rfl eN)))))) (mC rfl (mC rfl (mC rfl mN))) rfl (prK rfl)) ⟨(i64 (n5 + 1)), l6, l7, hrec2 ▸ h, rfl, rfl⟩
  replace h := iteF h hc8
  refine LH.exit ?_
  refine thenX ?_
  refine roundX ?_
  refine blockH ?_
  refine thenN ?_
  refine LH.wk ((Wk.trans (Wk.to (el := [(4, .arr 144 (List.length l6)), (5, .arr 158 (List.length l7))]) (ml := [(144, .arr 3 1 (List.map (LV.int .i64) l6)), (158, .arr 3 1 (List.map (LV.int .i64) l7))]) (eC rfl (eC rfl eN)) (mC rfl (mC rfl mN)) rfl (prK rfl)) (Wk.trans (Wk.frzL (f := (LV.int .i64)) (el' := [(4, .lst 1 (List.map (LV.int .i64) l6)), (5, .arr 158 (List.length l7))]) 144 3 1 l6 rfl rfl (prN rfl) (fZ (fK rfl fN))) (Wk.trans (Wk.frzL (f := (LV.int .i64)) (el' := [(4, .lst 1 (List.map (LV.int .i64) l6)), (5, .lst 1 (List.map (LV.int .i64) l7))]) 158 3 1 l7 rfl rfl (prN rfl) (fK rfl (fZ fN))) (Wk.to (el := [(4, .lst 1 (List.map (LV.int .i64) l6)), (5, .lst 1 (List.map (LV.int .i64) l7))]) (ml := []) (eC rfl (eC rfl eN)) mN rfl (prK rfl)))))) ?_
  refine LH.seqT [(4, .lst 1 (List.map (LV.int .i64) l6)), (5, .lst 1 (List.map (LV.int .i64) l7))] [] rfl ?_ ?_
  · refine sN (oM (v := (.lst _ _)) rfl ?_)
    refine sN (oM (v := (.lst _ _)) rfl ?_)
    refine sN (oA (v := (.lst _ _)) rfl ?_)
    refine sN (oA (v := (.lst _ _)) rfl ?_)
    exact s0 (Wk.to (eC rfl (eC rfl eN)) mN rfl (prK rfl))
  refine LH.ret ?_
  obtain rfl := Option.some.inj h
  exact retE (congrArg Array.toList Try.results31) (lrT rfl (lrT rfl (lr0 ⟨memN mN, rfl, prK rfl, (Sub.tup (sbR (sbR sbN)))⟩)))

theorem ref06_Has_ok {F : Nat} {p0 : List Int} {p1 : Int} {r : Bool} (h : ref06_Has F p0 p1 = some r) : LCall Try.prog 49 [.lst 1 (List.map (LV.int .i64) p0), .int .i64 p1] (Mem.of []) (.bool r) (Mem.of []) := by
  unfold ref06_Has at h
  refine bodyT Try.func49 rfl (by rw [Try.ntmps49]; exact Nat.le_of_ble_eq_true rfl) ?_
  refine LH.wk (Wk.to (el := [(0, .lst 1 (List.map (LV.int .i64) p0)), (1, .int .i64 p1)]) (ml := []) (eC rfl (eC rfl eN)) mN rfl (prK rfl)) ?_
  refine LH.seqT [(0, .lst 1 (List.map (LV.int .i64) p0)), (1, .int .i64 p1)] [] rfl ?_ ?_
  · refine sN (oA (v := (.bool _)) rfl ?_)
    exact s0 (Wk.to (eC rfl (eC rfl eN)) mN rfl (prK rfl))
  refine LH.seq ?_
  refine LH.seqT [(0, .lst 1 (List.map (LV.int .i64) p0)), (1, .int .i64 p1), (5, .int .i64 0)] [] rfl ?_ ?_
  · refine sN (oA (v := (.int _ _)) rfl ?_)
    exact s0 (Wk.to (eC rfl (eC rfl (eC rfl eN))) mN rfl (prK rfl))
  refine LH.block ?_
  refine LH.loop (fun n e m => ∃ (n1 : Int), ref06_Has_L1 p0 p1 n n1 = some r ∧ e = Env.of [(0, .lst 1 (List.map (LV.int .i64) p0)), (1, .int .i64 p1), (5, .int .i64 n1)] ∧ m = Mem.of []) F ⟨0, h, rfl, rfl⟩ ?_
  clear h
  rintro n e m ⟨n1, h, rfl, rfl⟩
  rcases n with _ | n
  · cases (show Option.none = some _ from h)
  obtain ⟨rec1, hrec1⟩ : ∃ f, f = ref06_Has_L1 p0 p1 n := ⟨_, rfl⟩
  replace h : ref06_Has_L1_B p0 p1 rec1 n1 = some r := hrec1 ▸ h
  unfold ref06_Has_L1_B at h
  refine LH.seq ?_
  refine LH.seqT [(0, .lst 1 (List.map (LV.int .i64) p0)), (1, .int .i64 p1), (5, .int .i64 n1), (9, .bool (decide (n1 < (p0.length : Int))))] [] rfl ?_ ?_
  · refine sN (oM (v := (.int _ _)) rfl ?_)
    refine sN (oM (v := (.lst _ _)) rfl ?_)
    refine sN (oLnL (f := (LV.int .i64)) te22 rfl ?_)
    refine sN (oLt rfl rfl ?_)
    exact s0 (Wk.to (eC rfl (eC rfl (eC rfl (eC rfl eN)))) mN rfl (prK rfl))
  refine LH.cond (t := (decide (n1 < (p0.length : Int)))) rfl (fun hc2 => ?_) (fun hc2 => ?_)
  · replace h := iteT h hc2
    refine LH.skip ?_
    refine thenN ?_
    refine LH.wk (Wk.to (el := [(0, .lst 1 (List.map (LV.int .i64) p0)), (1, .int .i64 p1), (5, .int .i64 n1)]) (ml := []) (eC rfl (eC rfl (eC rfl eN))) mN rfl (prK rfl)) ?_
    refine LH.seq ?_
    refine LH.block ?_
    obtain ⟨x3, hx3, h⟩ := bindS h
    refine LH.seqT [(0, .lst 1 (List.map (LV.int .i64) p0)), (1, .int .i64 p1), (5, .int .i64 n1), (17, .bool (x3 == p1))] [] rfl ?_ ?_
    · refine sN (oM (v := (.lst _ _)) rfl ?_)
      refine sN (oM (v := (.int _ _)) rfl ?_)
      refine sN (oIx (f := (LV.int .i64)) te22 tk3 ts3 rfl rfl okI hx3 rfl ?_)
      refine sN (oLd rfl tk3 ta3 ?_)
      refine sN (oM (v := (.int _ _)) rfl ?_)
      refine sN (oEq rfl rfl ?_)
      exact s0 (Wk.to (eC rfl (eC rfl (eC rfl (eC rfl eN)))) mN rfl (prK rfl))
    refine LH.cond (t := (x3 == p1)) rfl (fun hc4 => ?_) (fun hc4 => ?_)
    · replace h := iteT h hc4
      refine LH.seqT [(4, .bool true)] [] rfl ?_ ?_
      · refine sN (oA (v := (.bool _)) rfl ?_)
        exact s0 (Wk.to (eC rfl eN) mN rfl (prK rfl))
      refine LH.ret ?_
      refine blockR ?_
      refine thenR ?_
      refine roundR ?_
      refine blockR ?_
      refine thenR ?_
      obtain rfl := Option.some.inj h
      exact retE (congrArg Array.toList Try.results49) (lrT rfl (lr0 ⟨memN mN, rfl, prK rfl, Sub.rfl⟩))
    replace h := iteF h hc4
    refine LH.skip ?_
    refine blockN ?_
    refine thenN ?_
    refine LH.wk (Wk.to (el := [(0, .lst 1 (List.map (LV.int .i64) p0)), (1, .int .i64 p1), (5, .int .i64 n1)]) (ml := []) (eC rfl (eC rfl (eC rfl eN))) mN rfl (prK rfl)) ?_
    refine LH.loneT [(0, .lst 1 (List.map (LV.int .i64) p0)), (1, .int .i64 p1), (5, .int .i64 (i64 (n1 + 1)))] [] rfl ?_ ?_
    · refine sN (oM (v := (.int _ _)) rfl ?_)
      refine sN (oAdd rfl rfl ?_)
      refine sN (oA (v := (.int _ _)) rfl ?_)
      exact s0 (Wk.to (eC rfl (eC rfl (eC rfl eN))) mN rfl (prK rfl))
    exact roundN (e' := Env.of [(0, .lst 1 (List.map (LV.int .i64) p0)), (1, .int .i64 p1), (5, .int .i64 (i64 (n1 + 1)))]) (m' := Mem.of []) (Wk.to (eC rfl (eC rfl (eC rfl eN))) mN rfl (prK rfl)) ⟨(i64 (n1 + 1)), hrec1 ▸ h, rfl, rfl⟩
  replace h := iteF h hc2
  refine LH.exit ?_
  refine thenX ?_
  refine roundX ?_
  refine blockH ?_
  refine thenN ?_
  refine LH.wk (Wk.to (el := []) (ml := []) eN mN rfl (prK rfl)) ?_
  refine LH.seqT [(4, .bool false)] [] rfl ?_ ?_
  · refine sN (oA (v := (.bool _)) rfl ?_)
    exact s0 (Wk.to (eC rfl eN) mN rfl (prK rfl))
  refine LH.ret ?_
  obtain rfl := Option.some.inj h
  exact retE (congrArg Array.toList Try.results49) (lrT rfl (lr0 ⟨memN mN, rfl, prK rfl, Sub.rfl⟩))

theorem ref16_Compare_ok {F : Nat} {p0 : List GAttendance} {p1 : List Int} {r : List Int × List Int} (h : ref16_Compare F p0 p1 = some r) : LCall Try.prog 32 [.lst 5 (List.map GAttendance.lv p0), .lst 1 (List.map (LV.int .i64) p1)] (Mem.of []) (.tup [.lst 1 (List.map (LV.int .i64) r.1), .lst 1 (List.map (LV.int .i64) r.2)]) (Mem.of []) := by
  unfold ref16_Compare at h
  refine bodyT Try.func32 rfl (by rw [Try.ntmps32]; exact Nat.le_of_ble_eq_true rfl) ?_
  refine LH.wk (Wk.to (el := [(0, .lst 5 (List.map GAttendance.lv p0)), (1, .lst 1 (List.map (LV.int .i64) p1))]) (ml := []) (eC rfl (eC rfl eN)) mN rfl (prK rfl)) ?_
  refine LH.seqT [(0, .lst 5 (List.map GAttendance.lv p0)), (1, .lst 1 (List.map (LV.int .i64) p1))] [] rfl ?_ ?_
  · refine sN (oA (v := .nil) rfl ?_)
    refine sN (oA (v := .nil) rfl ?_)
    exact s0 (Wk.to (eC rfl (eC rfl eN)) mN rfl (prK rfl))
  refine LH.seqT [(0, .lst 5 (List.map GAttendance.lv p0)), (1, .lst 1 (List.map (LV.int .i64) p1)), (6, .nil), (7, .nil)] [] rfl ?_ ?_
  · refine sN (oA (v := .nil) rfl ?_)
    refine sN (oA (v := .nil) rfl ?_)
    exact s0 (Wk.to (eC rfl (eC rfl (eC rfl (eC rfl eN)))) mN rfl (prK rfl))
  refine LH.seq ?_
  refine LH.seqT [(0, .lst 5 (List.map GAttendance.lv p0)), (1, .lst 1 (List.map (LV.int .i64) p1)), (6, .nil), (7, .nil), (8, .int .i64 0)] [] rfl ?_ ?_
  · refine sN (oA (v := (.int _ _)) rfl ?_)
    exact s0 (Wk.to (eC rfl (eC rfl (eC rfl (eC rfl (eC rfl eN))))) mN rfl (prK rfl))
  refine LH.block ?_
  refine LH.wk ((Wk.trans (Wk.to (el := [(0, .lst 5 (List.map GAttendance.lv p0)), (1, .lst 1 (List.map (LV.int .i64) p1)), (6, .nil), (7, .nil), (8, .int .i64 0)]) (ml := []) (eC rfl (eC rfl (eC rfl (eC rfl (eC rfl eN))))) mN rfl (prK rfl)) (Wk.trans (Wk.to (el := [(0, .lst 5 (List.map GAttendance.lv p0)), (1, .lst 1 (List.map (LV.int .i64) p1)), (6, .nil), (7, .nil), (8, .int .i64 0)]) (ml := []) (eC rfl (eC rfl (eC rfl (eC rfl (eC rfl eN))))) mN rfl (prK rfl)) (Wk.trans (Wk.ownL (el' := [(0, .lst 5 (List.map GAttendance.lv p0)), (1, .lst 1 (List.map (LV.int .i64) p1)), (6, .arr 140 (List.length ([] : List Int))), (7, .nil), (8, .int .i64 0)]) 140 3 1 rfl rfl (wK (wK (wO (wK (wK wN)))))) (Wk.trans (Wk.to (el := [(0, .lst 5 (List.map GAttendance.lv p0)), (1, .lst 1 (List.map (LV.int .i64) p1)), (6, .arr 140 (List.length ([] : List Int))), (7, .nil), (8, .int .i64 0)]) (ml := [(140, .arr 3 1 (List.map (LV.int .i64) ([] : List Int)))]) (eC rfl (eC rfl (eC rfl (eC rfl (eC rfl eN))))) (mC rfl mN) rfl (prK rfl)) (Wk.trans (Wk.ownL (el' := [(0, .lst 5 (List.map GAttendance.lv p0)), (1, .lst 1 (List.map (LV.int .i64) p1)), (6, .arr 140 (List.length ([] : List Int))), (7, .arr 157 (List.length ([] : List Int))), (8, .int .i64 0)]) 157 3 1 rfl rfl (wK (wK (wK (wO (wK wN)))))) (Wk.to (el := [(0, .lst 5 (List.map GAttendance.lv p0)), (1, .lst 1 (List.map (LV.int .i64) p1)), (6, .arr 140 (List.length ([] : List Int))), (7, .arr 157 (List.length ([] : List Int))), (8, .int .i64 0)]) (ml := [(140, .arr 3 1 (List.map (LV.int .i64) ([] : List Int))), (157, .arr 3 1 (List.map (LV.int .i64) ([] : List Int)))]) (eC rfl (eC rfl (eC rfl (eC rfl (eC rfl eN))))) (mC rfl (mC rfl mN)) rfl (prK rfl)))))))) ?_
  refine LH.loop (fun n e m => ∃ (n1 : Int) (l2 : List Int) (l3 : List Int), ref16_Compare_L1 F p0 p1 n n1 l2 l3 = some r ∧ e = Env.of [(0, .lst 5 (List.map GAttendance.lv p0)), (1, .lst 1 (List.map (LV.int .i64) p1)), (6, .arr 140 (List.length l2)), (7, .arr 157 (List.length l3)), (8, .int .i64 n1)] ∧ m = Mem.of [(140, .arr 3 1 (List.map (LV.int .i64) l2)), (157, .arr 3 1 (List.map (LV.int .i64) l3))]) F ⟨0, ([] : List Int), ([] : List Int), h, rfl, rfl⟩ ?_
  clear h
  rintro n e m ⟨n1, l2, l3, h, rfl, rfl⟩
  rcases n with _ | n
  · cases (show Option.none = some _ from h)
  obtain ⟨rec1, hrec1⟩ : ∃ f, f = ref16_Compare_L1 F p0 p1 n := ⟨_, rfl⟩
  replace h : ref16_Compare_L1_B F p0 p1 rec1 n1 l2 l3 = some r := hrec1 ▸ h
  unfold ref16_Compare_L1_B at h
  refine LH.seq ?_
  refine LH.seqT [(0, .lst 5 (List.map GAttendance.lv p0)), (1, .lst 1 (List.map (LV.int .i64) p1)), (6, .arr 140 (List.length l2)), (7, .arr 157 (List.length l3)), (8, .int .i64 n1), (13, .bool (decide (n1 < (p0.length : Int))))] [(140, .arr 3 1 (List.map (LV.int .i64) l2)), (157, .arr 3 1 (List.map (LV.int .i64) l3))] rfl ?_ ?_
  · refine sN (oM (v := (.int _ _)) rfl ?_)
    refine sN (oM (v := (.lst _ _)) rfl ?_)
    refine sN (oLnL (f := GAttendance.lv) te47 rfl ?_)
    refine sN (oLt rfl rfl ?_)
    exact s0 (Wk.to (eC rfl (eC rfl (eC rfl (eC rfl (eC rfl (eC rfl eN)))))) (mC rfl (mC rfl mN)) rfl (prK rfl))
  refine LH.cond (t := (decide (n1 < (p0.length : Int)))) rfl (fun hc4 => ?_) (fun hc4 => ?_)
  · replace h := iteT h hc4
    refine LH.skip ?_
    refine thenN ?_
    refine LH.wk (Wk.to (el := [(0, .lst 5 (List.map GAttendance.lv p0)), (1, .lst 1 (List.map (LV.int .i64) p1)), (6, .arr 140 (List.length l2)), (7, .arr 157 (List.length l3)), (8, .int .i64 n1)]) (ml := [(140, .arr 3 1 (List.map (LV.int .i64) l2)), (157, .arr 3 1 (List.map (LV.int .i64) l3))]) (eC rfl (eC rfl (eC rfl (eC rfl (eC rfl eN))))) (mC rfl (mC rfl mN)) rfl (prK rfl)) ?_
    refine LH.seq ?_
    refine LH.block ?_
    obtain ⟨x5, hx5, h⟩ := bindS h
    obtain ⟨r6, hr6, h⟩ := bindS h
    refine LH.seqT [(0, .lst 5 (List.map GAttendance.lv p0)), (1, .lst 1 (List.map (LV.int .i64) p1)), (6, .arr 140 (List.length l2)), (7, .arr 157 (List.length l3)), (8, .int .i64 n1), (9, .bool r6)] [(140, .arr 3 1 (List.map (LV.int .i64) l2)), (157, .arr 3 1 (List.map (LV.int .i64) l3))] rfl ?_ ?_
    · refine sN (oM (v := (.lst _ _)) rfl ?_)
      refine sN (oM (v := (.lst _ _)) rfl ?_)
      refine sN (oM (v := (.int _ _)) rfl ?_)
      refine sN (oIx (f := GAttendance.lv) te47 tk54 ts54 rfl rfl GAttendance.ok hx5 rfl ?_)
      refine sN (oFaS tf54_0 tk3 ts3 rfl rfl rfl ?_)
      refine sN (oLd rfl tk3 ta3 ?_)
      refine sN (oCP (args := [.lst 1 (List.map (LV.int .i64) p1), .int .i64 x5.Candidate]) rfl isF49 rfl (sbR (sbR sbN)) (ref06_Has_ok hr6) rfl ?_)
      refine sN (oA (v := (.bool _)) rfl ?_)
      exact s0 (Wk.to (eC rfl (eC rfl (eC rfl (eC rfl (eC rfl (eC rfl eN)))))) (mC rfl (mC rfl mN)) rfl (prK rfl))
    refine LH.mid (fun e m => ∃ (l7 : List Int), ref16_Compare_J2 rec1 p0 n1 l3 r6 l7 = some r ∧ Wk (fun id => Mem.of [] id ≠ .none) e m (Env.of [(0, .lst 5 (List.map GAttendance.lv p0)), (1, .lst 1 (List.map (LV.int .i64) p1)), (6, .arr 140 (List.length l7)), (7, .arr 157 (List.length l3)), (8, .int .i64 n1), (9, .bool r6)]) (Mem.of [(140, .arr 3 1 (List.map (LV.int .i64) l7)), (157, .arr 3 1 (List.map (LV.int .i64) l3))])) ?_ ?_
    · obtain ⟨w16, hv, h⟩ := bindS h
      refine LH.seqT [(0, .lst 5 (List.map GAttendance.lv p0)), (1, .lst 1 (List.map (LV.int .i64) p1)), (6, .arr 140 (List.length l2)), (7, .arr 157 (List.length l3)), (8, .int .i64 n1), (9, .bool r6), (32, .bool w16)] [(140, .arr 3 1 (List.map (LV.int .i64) l2)), (157, .arr 3 1 (List.map (LV.int .i64) l3))] rfl ?_ ?_
      · refine sN (oM (v := (.lst _ _)) rfl ?_)
        refine sN (oM (v := (.int _ _)) rfl ?_)
        obtain ⟨x17, hx17, hv⟩ := bindS hv
        refine sN (oIx (f := GAttendance.lv) te47 tk54 ts54 rfl rfl GAttendance.ok hx17 rfl ?_)
        refine sN (oFaS tf54_1 tk3 ts3 rfl rfl rfl ?_)
        refine sN (oLd rfl tk3 ta3 ?_)
        refine sN (oEq rfl rfl ?_)
        refine sN (oM (v := (.bool _)) rfl ?_)
        by_cases hb18 : (x17.State == 1) = true
        · replace hv := iteT hv hb18
          refine sT rfl (congrArg LV.bool hb18) (oM (v := (.bool _)) rfl ?_)
          refine sT rfl (congrArg LV.bool hb18) (oNot rfl ?_)
          refine sN (oPkT (congrArg LV.bool hb18) (v := (.bool _)) rfl ?_)
          obtain rfl := Option.some.inj hv
          exact s0 (Wk.to (eC rfl (eC rfl (eC rfl (eC rfl (eC rfl (eC rfl (eC rfl eN))))))) (mC rfl (mC rfl mN)) rfl (prK rfl))
        · replace hb18 := bF hb18
          replace hv := iteF hv hb18
          refine sF rfl rfl hb18 ?_
          refine sF rfl rfl hb18 ?_
          refine sN (oPkF (congrArg LV.bool hb18) (v := (.bool _)) rfl ?_)
          obtain rfl := Option.some.inj hv
          exact s0 (Wk.to (eC rfl (eC rfl (eC rfl (eC rfl (eC rfl (eC rfl (eC rfl eN))))))) (mC rfl (mC rfl mN)) rfl (prK rfl))
      clear hv
      refine LH.cond (t := w16) rfl (fun hc19 => ?_) (fun hc19 => ?_)
      · replace h := iteT h hc19
        obtain ⟨x20, hx20, h⟩ := bindS h
        obtain ⟨v21, hv21, h⟩ := bindS h
        refine LH.loneT [(0, .lst 5 (List.map GAttendance.lv p0)), (1, .lst 1 (List.map (LV.int .i64) p1)), (6, .arr 140 (List.length v21)), (7, .arr 157 (List.length l3)), (8, .int .i64 n1), (9, .bool r6)] [(140, .arr 3 1 (List.map (LV.int .i64) v21)), (157, .arr 3 1 (List.map (LV.int .i64) l3))] rfl ?_ ?_
        · refine sN (oM (v := (.arr _ _)) rfl ?_)
          refine sN (oM (v := (.lst _ _)) rfl ?_)
          refine sN (oM (v := (.int _ _)) rfl ?_)
          refine sN (oIx (f := GAttendance.lv) te47 tk54 ts54 rfl rfl GAttendance.ok hx20 rfl ?_)
          refine sN (oFaS tf54_0 tk3 ts3 rfl rfl rfl ?_)
          refine sN (oLd rfl tk3 ta3 ?_)
          refine sN (oBS (f := (LV.int .i64)) (ys := [x20.Candidate]) te22 tr3 ts3 rfl rfl rfl okI ?_)
          refine sN (oAp (f := (LV.int .i64)) te22 tr3 ts3 rfl rfl (prN rfl) rfl hv21 ?_)
          refine sN (oA (v := (.arr _ _)) rfl ?_)
          exact s0 (Wk.to (eC rfl (eC rfl (eC rfl (eC rfl (eC rfl (eC rfl eN)))))) (mC rfl (mC rfl mN)) rfl (prK rfl))
        exact thenN ⟨v21, h, Wk.to (eC rfl (eC rfl (eC rfl (eC rfl (eC rfl (eC rfl eN)))))) (mC rfl (mC rfl mN)) rfl (prK rfl)⟩
      replace h := iteF h hc19
      refine LH.skip ?_
      exact thenN ⟨l2, h, Wk.to (eC rfl (eC rfl (eC rfl (eC rfl (eC rfl (eC rfl eN)))))) (mC rfl (mC rfl mN)) rfl (prK rfl)⟩
    clear h
    rintro e m ⟨l7, h, hw⟩
    refine LH.wk hw ?_
    clear hw
    unfold ref16_Compare_J2 at h
    obtain ⟨w9, hv, h⟩ := bindS h
    refine LH.seqT [(0, .lst 5 (List.map GAttendance.lv p0)), (1, .lst 1 (List.map (LV.int .i64) p1)), (6, .arr 140 (List.length l7)), (7, .arr 157 (List.length l3)), (8, .int .i64 n1), (49, .bool w9)] [(140, .arr 3 1 (List.map (LV.int .i64) l7)), (157, .arr 3 1 (List.map (LV.int .i64) l3))] rfl ?_ ?_
    · refine sN (oM (v := (.lst _ _)) rfl ?_)
      refine sN (oM (v := (.int _ _)) rfl ?_)
      obtain ⟨x10, hx10, hv⟩ := bindS hv
      refine sN (oIx (f := GAttendance.lv) te47 tk54 ts54 rfl rfl GAttendance.ok hx10 rfl ?_)
      refine sN (oFaS tf54_1 tk3 ts3 rfl rfl rfl ?_)
      refine sN (oLd rfl tk3 ta3 ?_)
      refine sN (oNe rfl rfl ?_)
      refine sN (oM (v := (.bool _)) rfl ?_)
      by_cases hb11 : (x10.State != 1) = true
      · replace hv := iteT hv hb11
        refine sT rfl (congrArg LV.bool hb11) (oM (v := (.bool _)) rfl ?_)
        refine sN (oPkT (congrArg LV.bool hb11) (v := (.bool _)) rfl ?_)
        obtain rfl := Option.some.inj hv
        exact s0 (Wk.to (eC rfl (eC rfl (eC rfl (eC rfl (eC rfl (eC rfl eN)))))) (mC rfl (mC rfl mN)) rfl (prK rfl))
      · replace hb11 := bF hb11
        replace hv := iteF hv hb11
        refine sF rfl rfl hb11 ?_
        refine sN (oPkF (congrArg LV.bool hb11) (v := (.bool _)) rfl ?_)
        obtain rfl := Option.some.inj hv
        exact s0 (Wk.to (eC rfl (eC rfl (eC rfl (eC rfl (eC rfl (eC rfl eN)))))) (mC rfl (mC rfl mN)) rfl (prK rfl))
    clear hv
    refine LH.cond (t := w9) rfl (fun hc12 => ?_) (fun hc12 => ?_)
    · replace h := iteT h hc12
      obtain ⟨x13, hx13, h⟩ := bindS h
      obtain ⟨v14, hv14, h⟩ := bindS h
      refine LH.loneT [(0, .lst 5 (List.map GAttendance.lv p0)), (1, .lst 1 (List.map (LV.int .i64) p1)), (6, .arr 140 (List.length l7)), (7, .arr 157 (List.length v14)), (8, .int .i64 n1)] [(140, .arr 3 1 (List.map (LV.int .i64) l7)), (157, .arr 3 1 (List.map (LV.int .i64) v14))] rfl ?_ ?_
      · refine sN (oM (v := (.arr _ _)) rfl ?_)
        refine sN (oM (v := (.lst _ _)) rfl ?_)
        refine sN (oM (v := (.int _ _)) rfl ?_)
        refine sN (oIx (f := GAttendance.lv) te47 tk54 ts54 rfl rfl GAttendance.ok hx13 rfl ?_)
        refine sN (oFaS tf54_0 tk3 ts3 rfl rfl rfl ?_)
        refine sN (oLd rfl tk3 ta3 ?_)
        refine sN (oBS (f := (LV.int .i64)) (ys := [x13.Candidate]) te22 tr3 ts3 rfl rfl rfl okI ?_)
        refine sN (oAp (f := (LV.int .i64)) te22 tr3 ts3 rfl rfl (prN rfl) rfl hv14 ?_)
        refine sN (oA (v := (.arr _ _)) rfl ?_)
        exact s0 (Wk.to (eC rfl (eC rfl (eC rfl (eC rfl (eC rfl eN))))) (mC rfl (mC rfl mN)) rfl (prK rfl))
      refine blockN ?_
      refine thenN ?_
      refine LH.loneT [(0, .lst 5 (List.map GAttendance.lv p0)), (1, .lst 1 (List.map (LV.int .i64) p1)), (6, .arr 140 (List.length l7)), (7, .arr 157 (List.length v14)), (8, .int .i64 (i64 (n1 + 1)))] [(140, .arr 3 1 (List.map (LV.int .i64) l7)), (157, .arr 3 1 (List.map (LV.int .i64) v14))] rfl ?_ ?_
      · refine sN (oM (v := (.int _ _)) rfl ?_)
        refine sN (oAdd rfl rfl ?_)
        refine sN (oA (v := (.int _ _)) rfl ?_)
        exact s0 (Wk.to (eC rfl (eC rfl (eC rfl (eC rfl (eC rfl eN))))) (mC rfl (mC rfl mN)) rfl (prK rfl))
      exact roundN (e' := Env.of [(0, .lst 5 (List.map GAttendance.lv p0)), (1, .lst 1 (List.map (LV.int .i64) p1)), (6, .arr 140 (List.length l7)), (7, .arr 157 (List.length v14)), (8, .int .i64 (i64 (n1 + 1)))]) (m' := Mem.of [(140, .arr 3 1 (List.map (LV.int .i64) l7)), (157, .arr 3 1 (List.map (LV.int .i64) v14))]) (Wk.to (eC rfl (eC rfl (eC rfl (eC rfl (eC rfl eN))))) (mC rfl (mC rfl mN)) rfl (prK rfl)) ⟨(i64 (n1 + 1)), l7, v14, hrec1 ▸ h, rfl, rfl⟩
    replace h := iteF h hc12
    refine LH.skip ?_
    refine blockN ?_
    refine thenN ?_
    refine LH.wk (Wk.to (el := [(0, .lst 5 (List.map GAttendance.lv p0)), (1, .lst 1 (List.map (LV.int .i64) p1)), (6, .arr 140 (List.length l7)), (7, .arr 157 (List.length l3)), (8, .int .i64 n1)]) (ml := [(140, .arr 3 1 (List.map (LV.int .i64) l7)), (157, .arr 3 1 (List.map (LV.int .i64) l3))]) (eC rfl (eC rfl (eC rfl (eC rfl (eC rfl eN))))) (mC rfl (mC rfl mN)) rfl (prK rfl)) ?_
    refine LH.loneT [(0, .lst 5 (List.map GAttendance.lv p0)), (1, .lst 1 (List.map (LV.int .i64) p1)), (6, .arr 140 (List.length l7)), (7, .arr 157 (List.length l3)), (8, .int .i64 (i64 (n1 + 1)))] [(140, .arr 3 1 (List.map (LV.int .i64) l7)), (157, .arr 3 1 (List.map (LV.int .i64) l3))] rfl ?_ ?_
    · refine sN (oM (v := (.int _ _)) rfl ?_)
      refine sN (oAdd rfl rfl ?_)
      refine sN (oA (v := (.int _ _)) rfl ?_)
      exact s0 (Wk.to (eC rfl (eC rfl (eC rfl (eC rfl (eC rfl eN))))) (mC rfl (mC rfl mN)) rfl (prK rfl))
    exact roundN (e' := Env.of [(0, .lst 5 (List.map GAttendance.lv p0)), (1, .lst 1 (List.map (LV.int .i64) p1)), (6, .arr 140 (List.length l7)), (7, .arr 157 (List.length l3)), (8, .int .i64 (i64 (n1 + 1)))]) (m' := Mem.of [(140, .arr 3 1 (List.map (LV.int .i64) l7)), (157, .arr 3 1 (List.map (LV.int .i64) l3))]) (Wk.to (eC rfl (eC rfl (eC rfl (eC rfl (eC rfl eN))))) (mC rfl (mC rfl mN)) rfl (prK rfl)) ⟨(i64 (n1 + 1)), l7, l3, hrec1 ▸ h, rfl, rfl⟩
  replace h := iteF h hc4
  refine LH.exit ?_
  refine thenX ?_
  refine roundX ?_
  refine blockH ?_
  refine thenN ?_
  refine LH.wk ((Wk.trans (Wk.to (el := [(6, .arr 140 (List.length l2)), (7, .arr 157 (List.length l3))]) (ml := [(140, .arr 3 1 (List.map (LV.int .i64) l2)), (157, .arr 3 1 (List.map (LV.int .i64) l3))]) (eC rfl (eC rfl eN)) (mC rfl (mC rfl mN)) rfl (prK rfl)) (Wk.trans (Wk.frzL (f := (LV.int .i64)) (el' := [(6, .lst 1 (List.map (LV.int .i64) l2)), (7, .arr 157 (List.length l3))]) 140 3 1 l2 rfl rfl (prN rfl) (fZ (fK rfl fN))) (Wk.trans (Wk.frzL (f := (LV.int .i64)) (el' := [(6, .lst 1 (List.map (LV.int .i64) l2)), (7, .lst 1 (List.map (LV.int .i64) l3))]) 157 3 1 l3 rfl rfl (prN rfl) (fK rfl (fZ fN))) (Wk.to (el := [(6, .lst 1 (List.map (LV.int .i64) l2)), (7, .lst 1 (List.map (LV.int .i64) l3))]) (ml := []) (eC rfl (eC rfl eN)) mN rfl (prK rfl)))))) ?_
  refine LH.seqT [(4, .lst 1 (List.map (LV.int .i64) l2)), (5, .lst 1 (List.map (LV.int .i64) l3))] [] rfl ?_ ?_
  · refine sN (oM (v := (.lst _ _)) rfl ?_)
    refine sN (oM (v := (.lst _ _)) rfl ?_)
    refine sN (oA (v := (.lst _ _)) rfl ?_)
    refine sN (oA (v := (.lst _ _)) rfl ?_)
    exact s0 (Wk.to (eC rfl (eC rfl eN)) mN rfl (prK rfl))
  refine LH.ret ?_
  obtain rfl := Option.some.inj h
  exact retE (congrArg Array.toList Try.results32) (lrT rfl (lrT rfl (lr0 ⟨memN mN, rfl, prK rfl, (Sub.tup (sbR (sbR sbN)))⟩)))

theorem attendance_Present_ok {F : Nat} {p0 : List GAttendance} {r : List Int} (h : attendance_Present F p0 = some r) : LCall Try.prog 34 [.lst 5 (List.map GAttendance.lv p0)] (Mem.of []) (.lst 1 (List.map (LV.int .i64) r)) (Mem.of []) := by
  unfold attendance_Present at h
  refine bodyT Try.func34 rfl (by rw [Try.ntmps34]; exact Nat.le_of_ble_eq_true rfl) ?_
  refine LH.wk (Wk.to (el := [(0, .lst 5 (List.map GAttendance.lv p0))]) (ml := []) (eC rfl eN) mN rfl (prK rfl)) ?_
  refine LH.seqT [(0, .lst 5 (List.map GAttendance.lv p0))] [] rfl ?_ ?_
  · refine sN (oA (v := .nil) rfl ?_)
    exact s0 (Wk.to (eC rfl eN) mN rfl (prK rfl))
  refine LH.seqT [(0, .lst 5 (List.map GAttendance.lv p0)), (3, .nil)] [] rfl ?_ ?_
  · refine sN (oA (v := .nil) rfl ?_)
    exact s0 (Wk.to (eC rfl (eC rfl eN)) mN rfl (prK rfl))
  refine LH.seq ?_
  refine LH.seqT [(3, .nil), (6, .lst 5 (List.map GAttendance.lv p0)), (7, .int .i64 (p0.length : Int)), (8, .int .i64 0)] [] rfl ?_ ?_
  · refine sN (oM (v := (.lst _ _)) rfl ?_)
    refine sN (oLnL (f := GAttendance.lv) te47 rfl ?_)
    refine sN (oM (v := (.int _ _)) rfl ?_)
    exact s0 (Wk.to (eC rfl (eC rfl (eC rfl (eC rfl eN)))) mN rfl (prK rfl))
  refine LH.block ?_
  refine LH.wk ((Wk.trans (Wk.to (el := [(3, .nil), (6, .lst 5 (List.map GAttendance.lv p0)), (7, .int .i64 (p0.length : Int)), (8, .int .i64 0)]) (ml := []) (eC rfl (eC rfl (eC rfl (eC rfl eN)))) mN rfl (prK rfl)) (Wk.trans (Wk.to (el := [(3, .nil), (6, .lst 5 (List.map GAttendance.lv p0)), (7, .int .i64 (p0.length : Int)), (8, .int .i64 0)]) (ml := []) (eC rfl (eC rfl (eC rfl (eC rfl eN)))) mN rfl (prK rfl)) (Wk.trans (Wk.ownL (el' := [(3, .arr 119 (List.length ([] : List Int))), (6, .lst 5 (List.map GAttendance.lv p0)), (7, .int .i64 (p0.length : Int)), (8, .int .i64 0)]) 119 3 1 rfl rfl (wO (wK (wK (wK wN))))) (Wk.to (el := [(3, .arr 119 (List.length ([] : List Int))), (6, .lst 5 (List.map GAttendance.lv p0)), (7, .int .i64 (p0.length : Int)), (8, .int .i64 0)]) (ml := [(119, .arr 3 1 (List.map (LV.int .i64) ([] : List Int)))]) (eC rfl (eC rfl (eC rfl (eC rfl eN)))) (mC rfl mN) rfl (prK rfl)))))) ?_
  refine LH.loop (fun n e m => ∃ (n1 : Int) (l2 : List Int), attendance_Present_L1 p0 n n1 l2 = some r ∧ e = Env.of [(3, .arr 119 (List.length l2)), (6, .lst 5 (List.map GAttendance.lv p0)), (7, .int .i64 (p0.length : Int)), (8, .int .i64 n1)] ∧ m = Mem.of [(119, .arr 3 1 (List.map (LV.int .i64) l2))]) F ⟨0, ([] : List Int), h, rfl, rfl⟩ ?_
  clear h
  rintro n e m ⟨n1, l2, h, rfl, rfl⟩
  rcases n with _ | n
  · cases (show Option.none = some _ from h)
  obtain ⟨rec1, hrec1⟩ : ∃ f, f = attendance_Present_L1 p0 n := ⟨_, rfl⟩
  replace h : attendance_Present_L1_B p0 rec1 n1 l2 = some r := hrec1 ▸ h
  unfold attendance_Present_L1_B at h
  refine LH.seqT [(3, .arr 119 (List.length l2)), (6, .lst 5 (List.map GAttendance.lv p0)), (7, .int .i64 (p0.length : Int)), (8, .int .i64 n1), (9, .bool (decide (n1 < (p0.length : Int))))] [(119, .arr 3 1 (List.map (LV.int .i64) l2))] rfl ?_ ?_
  · refine sN (oLt rfl rfl ?_)
    exact s0 (Wk.to (eC rfl (eC rfl (eC rfl (eC rfl (eC rfl eN))))) (mC rfl mN) rfl (prK rfl))
  refine LH.seq ?_
  refine LH.cond (t := (decide (n1 < (p0.length : Int)))) rfl (fun hc3 => ?_) (fun hc3 => ?_)
  · replace h := iteT h hc3
    refine LH.skip ?_
    refine thenN ?_
    refine LH.wk (Wk.to (el := [(3, .arr 119 (List.length l2)), (6, .lst 5 (List.map GAttendance.lv p0)), (7, .int .i64 (p0.length : Int)), (8, .int .i64 n1)]) (ml := [(119, .arr 3 1 (List.map (LV.int .i64) l2))]) (eC rfl (eC rfl (eC rfl (eC rfl eN)))) (mC rfl mN) rfl (prK rfl)) ?_
    refine LH.seq ?_
    refine LH.block ?_
    obtain ⟨x4, hx4, h⟩ := bindS h
    refine LH.seqT [(3, .arr 119 (List.length l2)), (5, .sptr [.int .i64 x4.Candidate, .int .i64 x4.State, .int .i64 x4.Late, .int .i64 x4.Left, .lst 1 (List.map (LV.int .i64) x4.Incidents)]), (6, .lst 5 (List.map GAttendance.lv p0)), (7, .int .i64 (p0.length : Int)), (8, .int .i64 n1)] [(119, .arr 3 1 (List.map (LV.int .i64) l2))] rfl ?_ ?_
    · refine sN (oIx (f := GAttendance.lv) te47 tk54 ts54 rfl rfl GAttendance.ok hx4 rfl ?_)
      refine sN (oLdA rfl tk54 ta54 ts54 rfl rfl ?_)
      refine sN (oAl (id := 105) rfl tz54 rfl rfl ?_)
      refine s_ (oSt rfl rfl rfl tk54 ts54 rfl rfl rfl ?_)
      exact s0 ((Wk.trans (Wk.to (el := [(3, .arr 119 (List.length l2)), (5, .ptr 105 0), (6, .lst 5 (List.map GAttendance.lv p0)), (7, .int .i64 (p0.length : Int)), (8, .int .i64 n1)]) (ml := [(105, .box [.int .i64 x4.Candidate, .int .i64 x4.State, .int .i64 x4.Late, .int .i64 x4.Left, .lst 1 (List.map (LV.int .i64) x4.Incidents)]), (119, .arr 3 1 (List.map (LV.int .i64) l2))]) (eC rfl (eC rfl (eC rfl (eC rfl (eC rfl eN))))) (mC rfl (mC rfl mN)) rfl (prK rfl)) (Wk.trans (Wk.frzB 105 [.int .i64 x4.Candidate, .int .i64 x4.State, .int .i64 x4.Late, .int .i64 x4.Left, .lst 1 (List.map (LV.int .i64) x4.Incidents)] rfl rfl rfl (prN rfl)) (Wk.to (eC rfl (eC rfl (eC rfl (eC rfl (eC rfl eN))))) (mC rfl mN) rfl (prK rfl)))))
    refine LH.seqT [(3, .arr 119 (List.length l2)), (5, .sptr [.int .i64 x4.Candidate, .int .i64 x4.State, .int .i64 x4.Late, .int .i64 x4.Left, .lst 1 (List.map (LV.int .i64) x4.Incidents)]), (6, .lst 5 (List.map GAttendance.lv p0)), (7, .int .i64 (p0.length : Int)), (8, .int .i64 n1), (14, .bool (x4.State == 1))] [(119, .arr 3 1 (List.map (LV.int .i64) l2))] rfl ?_ ?_
    · refine sN (oFaS tf54_1 tk3 ts3 rfl rfl rfl ?_)
      refine sN (oLd rfl tk3 ta3 ?_)
      refine sN (oEq rfl rfl ?_)
      exact s0 (Wk.to (eC rfl (eC rfl (eC rfl (eC rfl (eC rfl (eC rfl eN)))))) (mC rfl mN) rfl (prK rfl))
    refine LH.cond (t := (x4.State == 1)) rfl (fun hc5 => ?_) (fun hc5 => ?_)
    · replace h := iteT h hc5
      obtain ⟨v6, hv6, h⟩ := bindS h
      refine LH.loneT [(3, .arr 119 (List.length v6)), (6, .lst 5 (List.map GAttendance.lv p0)), (7, .int .i64 (p0.length : Int)), (8, .int .i64 n1)] [(119, .arr 3 1 (List.map (LV.int .i64) v6))] rfl ?_ ?_
      · refine sN (oM (v := (.arr _ _)) rfl ?_)
        refine sN (oFaS tf54_0 tk3 ts3 rfl rfl rfl ?_)
        refine sN (oLd rfl tk3 ta3 ?_)
        refine sN (oBS (f := (LV.int .i64)) (ys := [x4.Candidate]) te22 tr3 ts3 rfl rfl rfl okI ?_)
        refine sN (oAp (f := (LV.int .i64)) te22 tr3 ts3 rfl rfl (prN rfl) rfl hv6 ?_)
        refine sN (oA (v := (.arr _ _)) rfl ?_)
        exact s0 (Wk.to (eC rfl (eC rfl (eC rfl (eC rfl eN)))) (mC rfl mN) rfl (prK rfl))
      refine blockN ?_
      refine thenN ?_
      refine LH.loneT [(3, .arr 119 (List.length v6)), (6, .lst 5 (List.map GAttendance.lv p0)), (7, .int .i64 (p0.length : Int)), (8, .int .i64 (i64 (n1 + 1)))] [(119, .arr 3 1 (List.map (LV.int .i64) v6))] rfl ?_ ?_
      · refine sN (oAdd rfl rfl ?_)
        refine sN (oM (v := (.int _ _)) rfl ?_)
        exact s0 (Wk.to (eC rfl (eC rfl (eC rfl (eC rfl eN)))) (mC rfl mN) rfl (prK rfl))
      exact roundN (e' := Env.of [(3, .arr 119 (List.length v6)), (6, .lst 5 (List.map GAttendance.lv p0)), (7, .int .i64 (p0.length : Int)), (8, .int .i64 (i64 (n1 + 1)))]) (m' := Mem.of [(119, .arr 3 1 (List.map (LV.int .i64) v6))]) (Wk.to (eC rfl (eC rfl (eC rfl (eC rfl eN)))) (mC rfl mN) rfl (prK rfl)) ⟨(i64 (n1 + 1)), v6, hrec1 ▸ h, rfl, rfl⟩
    replace h := iteF h hc5
    refine LH.skip ?_
    refine blockN ?_
    refine thenN ?_
    refine LH.wk (Wk.to (el := [(3, .arr 119 (List.length l2)), (6, .lst 5 (List.map GAttendance.lv p0)), (7, .int .i64 (p0.length : Int)), (8, .int .i64 n1)]) (ml := [(119, .arr 3 1 (List.map (LV.int .i64) l2))]) (eC rfl (eC rfl (eC rfl (eC rfl eN)))) (mC rfl mN) rfl (prK rfl)) ?_
    refine LH.loneT [(3, .arr 119 (List.length l2)), (6, .lst 5 (List.map GAttendance.lv p0)), (7, .int .i64 (p0.length : Int)), (8, .int .i64 (i64 (n1 + 1)))] [(119, .arr 3 1 (List.map (LV.int .i64) l2))] rfl ?_ ?_
    · refine sN (oAdd rfl rfl ?_)
      refine sN (oM (v := (.int _ _)) rfl ?_)
      exact s0 (Wk.to (eC rfl (eC rfl (eC rfl (eC rfl eN)))) (mC rfl mN) rfl (prK rfl))
    exact roundN (e' := Env.of [(3, .arr 119 (List.length l2)), (6, .lst 5 (List.map GAttendance.lv p0)), (7, .int .i64 (p0.length : Int)), (8, .int .i64 (i64 (n1 + 1)))]) (m' := Mem.of [(119, .arr 3 1 (List.map (LV.int .i64) l2))]) (Wk.to (eC rfl (eC rfl (eC rfl (eC rfl eN)))) (mC rfl mN) rfl (prK rfl)) ⟨(i64 (n1 + 1)), l2, hrec1 ▸ h, rfl, rfl⟩
  replace h := iteF h hc3
  refine LH.exit ?_
  refine thenX ?_
  refine roundX ?_
  refine blockH ?_
  refine thenN ?_
  refine LH.wk ((Wk.trans (Wk.to (el := [(3, .arr 119 (List.length l2))]) (ml := [(119, .arr 3 1 (List.map (LV.int .i64) l2))]) (eC rfl eN) (mC rfl mN) rfl (prK rfl)) (Wk.trans (Wk.frzL (f := (LV.int .i64)) (el' := [(3, .lst 1 (List.map (LV.int .i64) l2))]) 119 3 1 l2 rfl rfl (prN rfl) (fZ fN)) (Wk.to (el := [(3, .lst 1 (List.map (LV.int .i64) l2))]) (ml := []) (eC rfl eN) mN rfl (prK rfl))))) ?_
  refine LH.seqT [(2, .lst 1 (List.map (LV.int .i64) l2))] [] rfl ?_ ?_
  · refine sN (oM (v := (.lst _ _)) rfl ?_)
    refine sN (oA (v := (.lst _ _)) rfl ?_)
    exact s0 (Wk.to (eC rfl eN) mN rfl (prK rfl))
  refine LH.ret ?_
  obtain rfl := Option.some.inj h
  exact retE (congrArg Array.toList Try.results34) (lrT rfl (lr0 ⟨memN mN, rfl, prK rfl, Sub.rfl⟩))

theorem ref16_Present_ok {F : Nat} {p0 : List GAttendance} {r : List Int} (h : ref16_Present F p0 = some r) : LCall Try.prog 35 [.lst 5 (List.map GAttendance.lv p0)] (Mem.of []) (.lst 1 (List.map (LV.int .i64) r)) (Mem.of []) := by
  unfold ref16_Present at h
  refine bodyT Try.func35 rfl (by rw [Try.ntmps35]; exact Nat.le_of_ble_eq_true rfl) ?_
  refine LH.wk (Wk.to (el := [(0, .lst 5 (List.map GAttendance.lv p0))]) (ml := []) (eC rfl eN) mN rfl (prK rfl)) ?_
  refine LH.seqT [(0, .lst 5 (List.map GAttendance.lv p0))] [] rfl ?_ ?_
  · refine sN (oA (v := .nil) rfl ?_)
    exact s0 (Wk.to (eC rfl eN) mN rfl (prK rfl))
  refine LH.seqT [(0, .lst 5 (List.map GAttendance.lv p0)), (3, .nil)] [] rfl ?_ ?_
  · refine sN (oA (v := .nil) rfl ?_)
    exact s0 (Wk.to (eC rfl (eC rfl eN)) mN rfl (prK rfl))
  refine LH.seq ?_
  refine LH.seqT [(0, .lst 5 (List.map GAttendance.lv p0)), (3, .nil), (4, .int .i64 0)] [] rfl ?_ ?_
  · refine sN (oA (v := (.int _ _)) rfl ?_)
    exact s0 (Wk.to (eC rfl (eC rfl (eC rfl eN))) mN rfl (prK rfl))
  refine LH.block ?_
  refine LH.wk ((Wk.trans (Wk.to (el := [(0, .lst 5 (List.map GAttendance.lv p0)), (3, .nil), (4, .int .i64 0)]) (ml := []) (eC rfl (eC rfl (eC rfl eN))) mN rfl (prK rfl)) (Wk.trans (Wk.to (el := [(0, .lst 5 (List.map GAttendance.lv p0)), (3, .nil), (4, .int .i64 0)]) (ml := []) (eC rfl (eC rfl (eC rfl eN))) mN rfl (prK rfl)) (Wk.trans (Wk.ownL (el' := [(0, .lst 5 (List.map GAttendance.lv p0)), (3, .arr 124 (List.length ([] : List Int))), (4, .int .i64 0)]) 124 3 1 rfl rfl (wK (wO (wK wN)))) (Wk.to (el := [(0, .lst 5 (List.map GAttendance.lv p0)), (3, .arr 124 (List.length ([] : List Int))), (4, .int .i64 0)]) (ml := [(124, .arr 3 1 (List.map (LV.int .i64) ([] : List Int)))]) (eC rfl (eC rfl (eC rfl eN))) (mC rfl mN) rfl (prK rfl)))))) ?_
  refine LH.loop (fun n e m => ∃ (n1 : Int) (l2 : List Int), ref16_Present_L1 p0 n n1 l2 = some r ∧ e = Env.of [(0, .lst 5 (List.map GAttendance.lv p0)), (3, .arr 124 (List.length l2)), (4, .int .i64 n1)] ∧ m = Mem.of [(124, .arr 3 1 (List.map (LV.int .i64) l2))]) F ⟨0, ([] : List Int), h, rfl, rfl⟩ ?_
  clear h
  rintro n e m ⟨n1, l2, h, rfl, rfl⟩
  rcases n with _ | n
  · cases (show Option.none = some _ from h)
  obtain ⟨rec1, hrec1⟩ : ∃ f, f = ref16_Present_L1 p0 n := ⟨_, rfl⟩
  replace h : ref16_Present_L1_B p0 rec1 n1 l2 = some r := hrec1 ▸ h
  unfold ref16_Present_L1_B at h
  refine LH.seq ?_
  refine LH.seqT [(0, .lst 5 (List.map GAttendance.lv p0)), (3, .arr 124 (List.length l2)), (4, .int .i64 n1), (8, .bool (decide (n1 < (p0.length : Int))))] [(124, .arr 3 1 (List.map (LV.int .i64) l2))] rfl ?_ ?_
  · refine sN (oM (v := (.int _ _)) rfl ?_)
    refine sN (oM (v := (.lst _ _)) rfl ?_)
    refine sN (oLnL (f := GAttendance.lv) te47 rfl ?_)
    refine sN (oLt rfl rfl ?_)
    exact s0 (Wk.to (eC rfl (eC rfl (eC rfl (eC rfl eN)))) (mC rfl mN) rfl (prK rfl))
  refine LH.cond (t := (decide (n1 < (p0.length : Int)))) rfl (fun hc3 => ?_) (fun hc3 => ?_)
  · replace h := iteT h hc3
    refine LH.skip ?_
    refine thenN ?_
    refine LH.wk (Wk.to (el := [(0, .lst 5 (List.map GAttendance.lv p0)), (3, .arr 124 (List.length l2)), (4, .int .i64 n1)]) (ml := [(124, .arr 3 1 (List.map (LV.int .i64) l2))]) (eC rfl (eC rfl (eC rfl eN))) (mC rfl mN) rfl (prK rfl)) ?_
    refine LH.seq ?_
    refine LH.block ?_
    obtain ⟨x4, hx4, h⟩ := bindS h
    refine LH.seqT [(0, .lst 5 (List.map GAttendance.lv p0)), (3, .arr 124 (List.length l2)), (4, .int .i64 n1), (16, .bool (x4.State == 1))] [(124, .arr 3 1 (List.map (LV.int .i64) l2))] rfl ?_ ?_
    · refine sN (oM (v := (.lst _ _)) rfl ?_)
      refine sN (oM (v := (.int _ _)) rfl ?_)
      refine sN (oIx (f := GAttendance.lv) te47 tk54 ts54 rfl rfl GAttendance.ok hx4 rfl ?_)
      refine sN (oFaS tf54_1 tk3 ts3 rfl rfl rfl ?_)
      refine sN (oLd rfl tk3 ta3 ?_)
      refine sN (oEq rfl rfl ?_)
      exact s0 (Wk.to (eC rfl (eC rfl (eC rfl (eC rfl eN)))) (mC rfl mN) rfl (prK rfl))
    refine LH.cond (t := (x4.State == 1)) rfl (fun hc5 => ?_) (fun hc5 => ?_)
    · replace h := iteT h hc5
      obtain ⟨x6, hx6, h⟩ := bindS h
      obtain ⟨v7, hv7, h⟩ := bindS h
      refine LH.loneT [(0, .lst 5 (List.map GAttendance.lv p0)), (3, .arr 124 (List.length v7)), (4, .int .i64 n1)] [(124, .arr 3 1 (List.map (LV.int .i64) v7))] rfl ?_ ?_
      · refine sN (oM (v := (.arr _ _)) rfl ?_)
        refine sN (oM (v := (.lst _ _)) rfl ?_)
        refine sN (oM (v := (.int _ _)) rfl ?_)
        refine sN (oIx (f := GAttendance.lv) te47 tk54 ts54 rfl rfl GAttendance.ok hx6 rfl ?_)
        refine sN (oFaS tf54_0 tk3 ts3 rfl rfl rfl ?_)
        refine sN (oLd rfl tk3 ta3 ?_)
        refine sN (oBS (f := (LV.int .i64)) (ys := [x6.Candidate]) te22 tr3 ts3 rfl rfl rfl okI ?_)
        refine sN (oAp (f := (LV.int .i64)) te22 tr3 ts3 rfl rfl (prN rfl) rfl hv7 ?_)
        refine sN (oA (v := (.arr _ _)) rfl ?_)
        exact s0 (Wk.to (eC rfl (eC rfl (eC rfl eN))) (mC rfl mN) rfl (prK rfl))
      refine blockN ?_
      refine thenN ?_
      refine LH.loneT [(0, .lst 5 (List.map GAttendance.lv p0)), (3, .arr 124 (List.length v7)), (4, .int .i64 (i64 (n1 + 1)))] [(124, .arr 3 1 (List.map (LV.int .i64) v7))] rfl ?_ ?_
      · refine sN (oM (v := (.int _ _)) rfl ?_)
        refine sN (oAdd rfl rfl ?_)
        refine sN (oA (v := (.int _ _)) rfl ?_)
        exact s0 (Wk.to (eC rfl (eC rfl (eC rfl eN))) (mC rfl mN) rfl (prK rfl))
      exact roundN (e' := Env.of [(0, .lst 5 (List.map GAttendance.lv p0)), (3, .arr 124 (List.length v7)), (4, .int .i64 (i64 (n1 + 1)))]) (m' := Mem.of [(124, .arr 3 1 (List.map (LV.int .i64) v7))]) (Wk.to (eC rfl (eC rfl (eC rfl eN))) (mC rfl mN) rfl (prK rfl)) ⟨(i64 (n1 + 1)), v7, hrec1 ▸ h, rfl, rfl⟩
    replace h := iteF h hc5
    refine LH.skip ?_
    refine blockN ?_
    refine thenN ?_
    refine LH.wk (Wk.to (el := [(0, .lst 5 (List.map GAttendance.lv p0)), (3, .arr 124 (List.length l2)), (4, .int .i64 n1)]) (ml := [(124, .arr 3 1 (List.map (LV.int .i64) l2))]) (eC rfl (eC rfl (eC rfl eN))) (mC rfl mN) rfl (prK rfl)) ?_
    refine LH.loneT [(0, .lst 5 (List.map GAttendance.lv p0)), (3, .arr 124 (List.length l2)), (4, .int .i64 (i64 (n1 + 1)))] [(124, .arr 3 1 (List.map (LV.int .i64) l2))] rfl ?_ ?_
    · refine sN (oM (v := (.int _ _)) rfl ?_)
      refine sN (oAdd rfl rfl ?_)
      refine sN (oA (v := (.int _ _)) rfl ?_)
      exact s0 (Wk.to (eC rfl (eC rfl (eC rfl eN))) (mC rfl mN) rfl (prK rfl))
    exact roundN (e' := Env.of [(0, .lst 5 (List.map GAttendance.lv p0)), (3, .arr 124 (List.length l2)), (4, .int .i64 (i64 (n1 + 1)))]) (m' := Mem.of [(124, .arr 3 1 (List.map (LV.int .i64) l2))]) (Wk.to (eC rfl (eC rfl (eC rfl eN))) (mC rfl mN) rfl (prK rfl)) ⟨(i64 (n1 + 1)), l2, hrec1 ▸ h, rfl, rfl⟩
  replace h := iteF h hc3
  refine LH.exit ?_
  refine thenX ?_
  refine roundX ?_
  refine blockH ?_
  refine thenN ?_
  refine LH.wk ((Wk.trans (Wk.to (el := [(3, .arr 124 (List.length l2))]) (ml := [(124, .arr 3 1 (List.map (LV.int .i64) l2))]) (eC rfl eN) (mC rfl mN) rfl (prK rfl)) (Wk.trans (Wk.frzL (f := (LV.int .i64)) (el' := [(3, .lst 1 (List.map (LV.int .i64) l2))]) 124 3 1 l2 rfl rfl (prN rfl) (fZ fN)) (Wk.to (el := [(3, .lst 1 (List.map (LV.int .i64) l2))]) (ml := []) (eC rfl eN) mN rfl (prK rfl))))) ?_
  refine LH.seqT [(2, .lst 1 (List.map (LV.int .i64) l2))] [] rfl ?_ ?_
  · refine sN (oM (v := (.lst _ _)) rfl ?_)
    refine sN (oA (v := (.lst _ _)) rfl ?_)
    exact s0 (Wk.to (eC rfl eN) mN rfl (prK rfl))
  refine LH.ret ?_
  obtain rfl := Option.some.inj h
  exact retE (congrArg Array.toList Try.results35) (lrT rfl (lr0 ⟨memN mN, rfl, prK rfl, Sub.rfl⟩))

theorem law16_AttendanceCompares_ok {F : Nat} {p0 : List GAttendance} {p1 : List Int} {p2 : List Int} {r : Bool} (h : law16_AttendanceCompares F p0 p1 p2 = some r) : LCall Try.prog 10 [.lst 5 (List.map GAttendance.lv p0), .lst 1 (List.map (LV.int .i64) p1), .lst 1 (List.map (LV.int .i64) p2)] (Mem.of []) (.bool r) (Mem.of []) := by
  unfold law16_AttendanceCompares at h
  refine bodyT Try.func10 rfl (by rw [Try.ntmps10]; exact Nat.le_of_ble_eq_true rfl) ?_
  refine LH.wk (Wk.to (el := [(0, .lst 5 (List.map GAttendance.lv p0)), (1, .lst 1 (List.map (LV.int .i64) p1)), (2, .lst 1 (List.map (LV.int .i64) p2))]) (ml := []) (eC rfl (eC rfl (eC rfl eN))) mN rfl (prK rfl)) ?_
  refine LH.seqT [(0, .lst 5 (List.map GAttendance.lv p0)), (1, .lst 1 (List.map (LV.int .i64) p1)), (2, .lst 1 (List.map (LV.int .i64) p2))] [] rfl ?_ ?_
  · refine sN (oA (v := (.bool _)) rfl ?_)
    exact s0 (Wk.to (eC rfl (eC rfl (eC rfl eN))) mN rfl (prK rfl))
  refine LH.seq ?_
  refine LH.seqT [(0, .lst 5 (List.map GAttendance.lv p0)), (1, .lst 1 (List.map (LV.int .i64) p1)), (2, .lst 1 (List.map (LV.int .i64) p2)), (27, .bool ((decide ((p0.length : Int) > 30)) || (decide ((p1.length : Int) > 60))))] [] rfl ?_ ?_
  · refine sN (oM (v := (.lst _ _)) rfl ?_)
    refine sN (oLnL (f := GAttendance.lv) te47 rfl ?_)
    refine sN (oGt rfl rfl ?_)
    refine sN (oM (v := (.bool _)) rfl ?_)
    by_cases hb2 : (decide ((p0.length : Int) > 30)) = true
    · refine sF rfl rfl hb2 ?_
      refine sF rfl rfl hb2 ?_
      refine sF rfl rfl hb2 ?_
      refine sN (oPkT (congrArg LV.bool hb2) (v := (.bool _)) rfl ?_)
      exact s0 (Wk.to (eC rfl (eC rfl (eC rfl (eC (congrArg LV.bool (orT hb2)) eN)))) mN rfl (prK rfl))
    · replace hb2 := bF hb2
      refine sT rfl (congrArg LV.bool hb2) (oM (v := (.lst _ _)) rfl ?_)
      refine sT rfl (congrArg LV.bool hb2) (oLnL (f := (LV.int .i64)) te22 rfl ?_)
      refine sT rfl (congrArg LV.bool hb2) (oGt rfl rfl ?_)
      refine sN (oPkF (congrArg LV.bool hb2) (v := (.bool _)) rfl ?_)
      exact s0 (Wk.to (eC rfl (eC rfl (eC rfl (eC (congrArg LV.bool (orF hb2)) eN)))) mN rfl (prK rfl))
  refine LH.cond (t := ((decide ((p0.length : Int) > 30)) || (decide ((p1.length : Int) > 60)))) rfl (fun hc3 => ?_) (fun hc3 => ?_)
  · replace h := iteT h hc3
    refine LH.seqT [(6, .bool true)] [] rfl ?_ ?_
    · refine sN (oA (v := (.bool _)) rfl ?_)
      exact s0 (Wk.to (eC rfl eN) mN rfl (prK rfl))
    refine LH.ret ?_
    refine thenR ?_
    obtain rfl := Option.some.inj h
    exact retE (congrArg Array.toList Try.results10) (lrT rfl (lr0 ⟨memN mN, rfl, prK rfl, Sub.rfl⟩))
  replace h := iteF h hc3
  refine LH.skip ?_
  refine thenN ?_
  refine LH.wk (Wk.to (el := [(0, .lst 5 (List.map GAttendance.lv p0)), (1, .lst 1 (List.map (LV.int .i64) p1)), (2, .lst 1 (List.map (LV.int .i64) p2))]) (ml := []) (eC rfl (eC rfl (eC rfl eN))) mN rfl (prK rfl)) ?_
  obtain ⟨r4, hr4, h⟩ := bindS h
  refine LH.seqT [(0, .lst 5 (List.map GAttendance.lv p0)), (1, .lst 1 (List.map (LV.int .i64) p1)), (7, .ptr 7 0)] [(7, .box [.lst 1 (List.map (LV.int .i64) r4.L), .int .i64 r4.At])] rfl ?_ ?_
  · refine sN (oM (v := (.lst _ _)) rfl ?_)
    refine sN (oCM (args := [.lst 1 (List.map (LV.int .i64) p2)]) (ml := []) (ml' := [(7, .box [.lst 1 (List.map (LV.int .i64) r4.L), .int .i64 r4.At])]) rfl isF11 rfl (sbR sbN) (make_New_ok hr4) mN (newF rfl newN) rfl ?_)
    refine sN (oA (v := (.ptr _ _)) rfl ?_)
    exact s0 (Wk.to (eC rfl (eC rfl (eC rfl eN))) (mC rfl mN) rfl (prK rfl))
  obtain ⟨r5, hr5, h⟩ := bindS h
  obtain ⟨r6, hr6, h⟩ := bindS h
  obtain ⟨r7, hr7, h⟩ := bindS h
  refine LH.seqT [(0, .lst 5 (List.map GAttendance.lv p0)), (1, .lst 1 (List.map (LV.int .i64) p1)), (7, .ptr 7 0), (8, .lst 5 (List.map GAttendance.lv r7.1))] [(7, .box [.lst 1 (List.map (LV.int .i64) r6.2.L), .int .i64 r6.2.At])] rfl ?_ ?_
  · refine sN (oM (v := (.ptr _ _)) rfl ?_)
    refine sN (oCM (args := [.ptr 7 0, .int .i64 0]) (ml := [(7, .box [.lst 1 (List.map (LV.int .i64) r4.L), .int .i64 r4.At])]) (ml' := [(7, .box [.lst 1 (List.map (LV.int .i64) r5.2.L), .int .i64 r5.2.At])]) rfl isF18 rfl (sbR (sbR sbN)) (GTape_Enrolled_ok hr5) (mC rfl mN) (newI rfl newN) rfl ?_)
    refine sN (oM (v := (.ptr _ _)) rfl ?_)
    refine sN (oCM (args := [.ptr 7 0, .int .i64 10, .int .i64 0]) (ml := [(7, .box [.lst 1 (List.map (LV.int .i64) r5.2.L), .int .i64 r5.2.At])]) (ml' := [(7, .box [.lst 1 (List.map (LV.int .i64) r6.2.L), .int .i64 r6.2.At])]) rfl isF12 rfl (sbR (sbR (sbR sbN))) (GTape_RegisterEvents_ok hr6) (mC rfl mN) (newI rfl newN) rfl ?_)
    refine sN (oCP (args := [.lst 4 (List.map GEnrolment.lv r5.1), .lst 6 (List.map GRegisterEvent.lv r6.1), .int .i64 30]) rfl isF23 rfl (sbR (sbR (sbR sbN))) (ref16_Fold_ok hr7) rfl ?_)
    refine sN (oM (v := (.tup _)) rfl ?_)
    refine sN (oEx rfl rfl ?_)
    refine sN (oEx rfl rfl ?_)
    refine sN (oEx rfl rfl ?_)
    refine sN (oA (v := (.lst _ _)) rfl ?_)
    refine sN (oA (v := (.lst _ _)) rfl ?_)
    refine sN (oA (v := (.int _ _)) rfl ?_)
    exact s0 (Wk.to (eC rfl (eC rfl (eC rfl (eC rfl eN)))) (mC rfl mN) rfl (prK rfl))
  obtain ⟨r8, hr8, h⟩ := bindS h
  refine LH.seqT [(0, .lst 5 (List.map GAttendance.lv p0)), (1, .lst 1 (List.map (LV.int .i64) p1)), (8, .lst 5 (List.map GAttendance.lv r7.1)), (11, .lst 1 (List.map (LV.int .i64) r8.1))] [] rfl ?_ ?_
  · refine sN (oM (v := (.ptr _ _)) rfl ?_)
    refine sN (oCM (args := [.ptr 7 0, .int .i64 6, .int .i64 0, .int .i64 5]) (ml := [(7, .box [.lst 1 (List.map (LV.int .i64) r6.2.L), .int .i64 r6.2.At])]) (ml' := [(7, .box [.lst 1 (List.map (LV.int .i64) r8.2.L), .int .i64 r8.2.At])]) rfl isF30 rfl (sbR (sbR (sbR (sbR sbN)))) (GTape_Ints_ok hr8) (mC rfl mN) (newI rfl newN) rfl ?_)
    refine sN (oA (v := (.lst _ _)) rfl ?_)
    exact s0 (Wk.to (eC rfl (eC rfl (eC rfl (eC rfl eN)))) mN rfl (prK rfl))
  obtain ⟨r9, hr9, h⟩ := bindS h
  refine LH.seqT [(0, .lst 5 (List.map GAttendance.lv p0)), (1, .lst 1 (List.map (LV.int .i64) p1)), (8, .lst 5 (List.map GAttendance.lv r7.1)), (11, .lst 1 (List.map (LV.int .i64) r8.1)), (12, .lst 1 (List.map (LV.int .i64) r9.1)), (13, .lst 1 (List.map (LV.int .i64) r9.2))] [] rfl ?_ ?_
  · refine sN (oM (v := (.lst _ _)) rfl ?_)
    refine sN (oM (v := (.lst _ _)) rfl ?_)
    refine sN (oCP (args := [.lst 5 (List.map GAttendance.lv p0), .lst 1 (List.map (LV.int .i64) p1)]) rfl isF31 rfl (sbR (sbR sbN)) (attendance_Compare_ok hr9) rfl ?_)
    refine sN (oM (v := (.tup _)) rfl ?_)
    refine sN (oEx rfl rfl ?_)
    refine sN (oEx rfl rfl ?_)
    refine sN (oA (v := (.lst _ _)) rfl ?_)
    refine sN (oA (v := (.lst _ _)) rfl ?_)
    exact s0 (Wk.to (eC rfl (eC rfl (eC rfl (eC rfl (eC rfl (eC rfl eN)))))) mN rfl (prK rfl))
  obtain ⟨r10, hr10, h⟩ := bindS h
  refine LH.seqT [(0, .lst 5 (List.map GAttendance.lv p0)), (8, .lst 5 (List.map GAttendance.lv r7.1)), (11, .lst 1 (List.map (LV.int .i64) r8.1)), (12, .lst 1 (List.map (LV.int .i64) r9.1)), (13, .lst 1 (List.map (LV.int .i64) r9.2)), (14, .lst 1 (List.map (LV.int .i64) r10.1)), (15, .lst 1 (List.map (LV.int .i64) r10.2))] [] rfl ?_ ?_
  · refine sN (oM (v := (.lst _ _)) rfl ?_)
    refine sN (oM (v := (.lst _ _)) rfl ?_)
    refine sN (oCP (args := [.lst 5 (List.map GAttendance.lv p0), .lst 1 (List.map (LV.int .i64) p1)]) rfl isF32 rfl (sbR (sbR sbN)) (ref16_Compare_ok hr10) rfl ?_)
    refine sN (oM (v := (.tup _)) rfl ?_)
    refine sN (oEx rfl rfl ?_)
    refine sN (oEx rfl rfl ?_)
    refine sN (oA (v := (.lst _ _)) rfl ?_)
    refine sN (oA (v := (.lst _ _)) rfl ?_)
    exact s0 (Wk.to (eC rfl (eC rfl (eC rfl (eC rfl (eC rfl (eC rfl (eC rfl eN))))))) mN rfl (prK rfl))
  obtain ⟨r11, hr11, h⟩ := bindS h
  refine LH.seqT [(0, .lst 5 (List.map GAttendance.lv p0)), (8, .lst 5 (List.map GAttendance.lv r7.1)), (11, .lst 1 (List.map (LV.int .i64) r8.1)), (12, .lst 1 (List.map (LV.int .i64) r9.1)), (13, .lst 1 (List.map (LV.int .i64) r9.2)), (14, .lst 1 (List.map (LV.int .i64) r10.1)), (15, .lst 1 (List.map (LV.int .i64) r10.2)), (16, .lst 1 (List.map (LV.int .i64) r11.1)), (17, .lst 1 (List.map (LV.int .i64) r11.2))] [] rfl ?_ ?_
  · refine sN (oM (v := (.lst _ _)) rfl ?_)
    refine sN (oM (v := (.lst _ _)) rfl ?_)
    refine sN (oCP (args := [.lst 5 (List.map GAttendance.lv r7.1), .lst 1 (List.map (LV.int .i64) r8.1)]) rfl isF31 rfl (sbR (sbR sbN)) (attendance_Compare_ok hr11) rfl ?_)
    refine sN (oM (v := (.tup _)) rfl ?_)
    refine sN (oEx rfl rfl ?_)
    refine sN (oEx rfl rfl ?_)
    refine sN (oA (v := (.lst _ _)) rfl ?_)
    refine sN (oA (v := (.lst _ _)) rfl ?_)
    exact s0 (Wk.to (eC rfl (eC rfl (eC rfl (eC rfl (eC rfl (eC rfl (eC rfl (eC rfl (eC rfl eN))))))))) mN rfl (prK rfl))
  obtain ⟨r12, hr12, h⟩ := bindS h
  refine LH.seqT [(0, .lst 5 (List.map GAttendance.lv p0)), (8, .lst 5 (List.map GAttendance.lv r7.1)), (12, .lst 1 (List.map (LV.int .i64) r9.1)), (13, .lst 1 (List.map (LV.int .i64) r9.2)), (14, .lst 1 (List.map (LV.int .i64) r10.1)), (15, .lst 1 (List.map (LV.int .i64) r10.2)), (16, .lst 1 (List.map (LV.int .i64) r11.1)), (17, .lst 1 (List.map (LV.int .i64) r11.2)), (18, .lst 1 (List.map (LV.int .i64) r12.1)), (19, .lst 1 (List.map (LV.int .i64) r12.2))] [] rfl ?_ ?_
  · refine sN (oM (v := (.lst _ _)) rfl ?_)
    refine sN (oM (v := (.lst _ _)) rfl ?_)
    refine sN (oCP (args := [.lst 5 (List.map GAttendance.lv r7.1), .lst 1 (List.map (LV.int .i64) r8.1)]) rfl isF32 rfl (sbR (sbR sbN)) (ref16_Compare_ok hr12) rfl ?_)
    refine sN (oM (v := (.tup _)) rfl ?_)
    refine sN (oEx rfl rfl ?_)
    refine sN (oEx rfl rfl ?_)
    refine sN (oA (v := (.lst _ _)) rfl ?_)
    refine sN (oA (v := (.lst _ _)) rfl ?_)
    exact s0 (Wk.to (eC rfl (eC rfl (eC rfl (eC rfl (eC rfl (eC rfl (eC rfl (eC rfl (eC rfl (eC rfl eN)))))))))) mN rfl (prK rfl))
  obtain ⟨w14, hv, h⟩ := bindS h
  refine LH.seqT [(6, .bool w14)] [] rfl ?_ ?_
  · refine sN (oM (v := (.lst _ _)) rfl ?_)
    refine sN (oM (v := (.lst _ _)) rfl ?_)
    obtain ⟨r15, hr15, hv⟩ := bindS hv
    refine sN (oCP (args := [.lst 1 (List.map (LV.int .i64) r9.1), .lst 1 (List.map (LV.int .i64) r10.1)]) rfl isF33 rfl (sbR (sbR sbN)) (ref06_Ints_ok hr15) rfl ?_)
    refine sN (oM (v := (.bool _)) rfl ?_)
    by_cases hb16 : r15 = true
    · replace hv := iteT hv hb16
      refine sT rfl (congrArg LV.bool hb16) (oM (v := (.lst _ _)) rfl ?_)
      refine sT rfl (congrArg LV.bool hb16) (oM (v := (.lst _ _)) rfl ?_)
      obtain ⟨r17, hr17, hv⟩ := bindS hv
      refine sT rfl (congrArg LV.bool hb16) (oCP (args := [.lst 1 (List.map (LV.int .i64) r9.2), .lst 1 (List.map (LV.int .i64) r10.2)]) rfl isF33 rfl (sbR (sbR sbN)) (ref06_Ints_ok hr17) rfl ?_)
      refine sN (oPkT (congrArg LV.bool hb16) (v := (.bool _)) rfl ?_)
      refine sN (oM (v := (.bool _)) rfl ?_)
      by_cases hb18 : r17 = true
      · replace hv := iteT hv hb18
        refine sT rfl (congrArg LV.bool hb18) (oM (v := (.lst _ _)) rfl ?_)
        refine sT rfl (congrArg LV.bool hb18) (oM (v := (.lst _ _)) rfl ?_)
        obtain ⟨r19, hr19, hv⟩ := bindS hv
        refine sT rfl (congrArg LV.bool hb18) (oCP (args := [.lst 1 (List.map (LV.int .i64) r11.1), .lst 1 (List.map (LV.int .i64) r12.1)]) rfl isF33 rfl (sbR (sbR sbN)) (ref06_Ints_ok hr19) rfl ?_)
        refine sN (oPkT (congrArg LV.bool hb18) (v := (.bool _)) rfl ?_)
        refine sN (oM (v := (.bool _)) rfl ?_)
        by_cases hb20 : r19 = true
        · replace hv := iteT hv hb20
          refine sT rfl (congrArg LV.bool hb20) (oM (v := (.lst _ _)) rfl ?_)
          refine sT rfl (congrArg LV.bool hb20) (oM (v := (.lst _ _)) rfl ?_)
          obtain ⟨r21, hr21, hv⟩ := bindS hv
          refine sT rfl (congrArg LV.bool hb20) (oCP (args := [.lst 1 (List.map (LV.int .i64) r11.2), .lst 1 (List.map (LV.int .i64) r12.2)]) rfl isF33 rfl (sbR (sbR sbN)) (ref06_Ints_ok hr21) rfl ?_)
          refine sN (oPkT (congrArg LV.bool hb20) (v := (.bool _)) rfl ?_)
          refine sN (oM (v := (.bool _)) rfl ?_)
          by_cases hb22 : r21 = true
          · replace hv := iteT hv hb22
            refine sT rfl (congrArg LV.bool hb22) (oM (v := (.lst _ _)) rfl ?_)
            obtain ⟨r23, hr23, hv⟩ := bindS hv
            refine sT rfl (congrArg LV.bool hb22) (oCP (args := [.lst 5 (List.map GAttendance.lv p0)]) rfl isF34 rfl (sbR sbN) (attendance_Present_ok hr23) rfl ?_)
            refine sT rfl (congrArg LV.bool hb22) (oM (v := (.lst _ _)) rfl ?_)
            obtain ⟨r24, hr24, hv⟩ := bindS hv
            refine sT rfl (congrArg LV.bool hb22) (oCP (args := [.lst 5 (List.map GAttendance.lv p0)]) rfl isF35 rfl (sbR sbN) (ref16_Present_ok hr24) rfl ?_)
            obtain ⟨r25, hr25, hv⟩ := bindS hv
            refine sT rfl (congrArg LV.bool hb22) (oCP (args := [.lst 1 (List.map (LV.int .i64) r23), .lst 1 (List.map (LV.int .i64) r24)]) rfl isF33 rfl (sbR (sbR sbN)) (ref06_Ints_ok hr25) rfl ?_)
            refine sN (oPkT (congrArg LV.bool hb22) (v := (.bool _)) rfl ?_)
            refine sN (oM (v := (.bool _)) rfl ?_)
            by_cases hb26 : r25 = true
            · replace hv := iteT hv hb26
              refine sT rfl (congrArg LV.bool hb26) (oM (v := (.lst _ _)) rfl ?_)
              obtain ⟨r27, hr27, hv⟩ := bindS hv
              refine sT rfl (congrArg LV.bool hb26) (oCP (args := [.lst 5 (List.map GAttendance.lv r7.1)]) rfl isF34 rfl (sbR sbN) (attendance_Present_ok hr27) rfl ?_)
              refine sT rfl (congrArg LV.bool hb26) (oM (v := (.lst _ _)) rfl ?_)
              obtain ⟨r28, hr28, hv⟩ := bindS hv
              refine sT rfl (congrArg LV.bool hb26) (oCP (args := [.lst 5 (List.map GAttendance.lv r7.1)]) rfl isF35 rfl (sbR sbN) (ref16_Present_ok hr28) rfl ?_)
              obtain ⟨r29, hr29, hv⟩ := bindS hv
              refine sT rfl (congrArg LV.bool hb26) (oCP (args := [.lst 1 (List.map (LV.int .i64) r27), .lst 1 (List.map (LV.int .i64) r28)]) rfl isF33 rfl (sbR (sbR sbN)) (ref06_Ints_ok hr29) rfl ?_)
              refine sN (oPkT (congrArg LV.bool hb26) (v := (.bool _)) rfl ?_)
              refine sN (oM (v := (.bool _)) rfl ?_)
              by_cases hb30 : r29 = true
              · replace hv := iteT hv hb30
                obtain ⟨r31, hr31, hv⟩ := bindS hv
                refine sT rfl (congrArg LV.bool hb30) (oCP (args := []) rfl isF17 rfl sbN (law16_awake_ok hr31) rfl ?_)
                refine sN (oPkT (congrArg LV.bool hb30) (v := (.bool _)) rfl ?_)
                refine sN (oA (v := (.bool _)) rfl ?_)
                obtain rfl := Option.some.inj hv
                exact s0 (Wk.to (eC rfl eN) mN rfl (prK rfl))
              · replace hb30 := bF hb30
                replace hv := iteF hv hb30
                refine sF rfl rfl hb30 ?_
                refine sN (oPkF (congrArg LV.bool hb30) (v := (.bool _)) rfl ?_)
                refine sN (oA (v := (.bool _)) rfl ?_)
                obtain rfl := Option.some.inj hv
                exact s0 (Wk.to (eC rfl eN) mN rfl (prK rfl))
            · replace hb26 := bF hb26
              replace hv := iteF hv hb26
              refine sF rfl rfl hb26 ?_
              refine sF rfl rfl hb26 ?_
              refine sF rfl rfl hb26 ?_
              refine sF rfl rfl hb26 ?_
              refine sF rfl rfl hb26 ?_
              refine sN (oPkF (congrArg LV.bool hb26) (v := (.bool _)) rfl ?_)
              refine sN (oM (v := (.bool _)) rfl ?_)
              refine sF rfl rfl rfl ?_
              refine sN (oPkF rfl (v := (.bool _)) rfl ?_)
              refine sN (oA (v := (.bool _)) rfl ?_)
              obtain rfl := Option.some.inj hv
              exact s0 (Wk.to (eC rfl eN) mN rfl (prK rfl))
          · replace hb22 := bF hb22
            replace hv := iteF hv hb22
            refine sF rfl rfl hb22 ?_
            refine sF rfl rfl hb22 ?_
            refine sF rfl rfl hb22 ?_
            refine sF rfl rfl hb22 ?_
            refine sF rfl rfl hb22 ?_
            refine sN (oPkF (congrArg LV.bool hb22) (v := (.bool _)) rfl ?_)
            refine sN (oM (v := (.bool _)) rfl ?_)
            refine sF rfl rfl rfl ?_
            refine sF rfl rfl rfl ?_
            refine sF rfl rfl rfl ?_
            refine sF rfl rfl rfl ?_
            refine sF rfl rfl rfl ?_
            refine sN (oPkF rfl (v := (.bool _)) rfl ?_)
            refine sN (oM (v := (.bool _)) rfl ?_)
            refine sF rfl rfl rfl ?_
            refine sN (oPkF rfl (v := (.bool _)) rfl ?_)
            refine sN (oA (v := (.bool _)) rfl ?_)
            obtain rfl := Option.some.inj hv
            exact s0 (Wk.to (eC rfl eN) mN rfl (prK rfl))
        · replace hb20 := bF hb20
          replace hv := iteF hv hb20
          refine sF rfl rfl hb20 ?_
          refine sF rfl rfl hb20 ?_
          refine sF rfl rfl hb20 ?_
          refine sN (oPkF (congrArg LV.bool hb20) (v := (.bool _)) rfl ?_)
          refine sN (oM (v := (.bool _)) rfl ?_)
          refine sF rfl rfl rfl ?_
          refine sF rfl rfl rfl ?_
          refine sF rfl rfl rfl ?_
          refine sF rfl rfl rfl ?_
          refine sF rfl rfl rfl ?_
          refine sN (oPkF rfl (v := (.bool _)) rfl ?_)
          refine sN (oM (v := (.bool _)) rfl ?_)
          refine sF rfl rfl rfl ?_
          refine sF rfl rfl rfl ?_
          refine sF rfl rfl rfl ?_
          refine sF rfl rfl rfl ?_
          refine sF rfl rfl rfl ?_
          refine sN (oPkF rfl (v := (.bool _)) rfl ?_)
          refine sN (oM (v := (.bool _)) rfl ?_)
          refine sF rfl rfl rfl ?_
          refine sN (oPkF rfl (v := (.bool _)) rfl ?_)
          refine sN (oA (v := (.bool _)) rfl ?_)
          obtain rfl := Option.some.inj hv
          exact s0 (Wk.to (eC rfl eN) mN rfl (prK rfl))
      · replace hb18 := bF hb18
        replace hv := iteF hv hb18
        refine sF rfl rfl hb18 ?_
        refine sF rfl rfl hb18 ?_
        refine sF rfl rfl hb18 ?_
        refine sN (oPkF (congrArg LV.bool hb18) (v := (.bool _)) rfl ?_)
        refine sN (oM (v := (.bool _)) rfl ?_)
        refine sF rfl rfl rfl ?_
        refine sF rfl rfl rfl ?_
        refine sF rfl rfl rfl ?_
        refine sN (oPkF rfl (v := (.bool _)) rfl ?_)
        refine sN (oM (v := (.bool _)) rfl ?_)
        refine sF rfl rfl rfl ?_
        refine sF rfl rfl rfl ?_
        refine sF rfl rfl rfl ?_
        refine sF rfl rfl rfl ?_
        refine sF rfl rfl rfl ?_
        refine sN (oPkF rfl (v := (.bool _)) rfl ?_)
        refine sN (oM (v := (.bool _)) rfl ?_)
        refine sF rfl rfl rfl ?_
        refine sF rfl rfl rfl ?_
        refine sF rfl rfl rfl ?_
        refine sF rfl rfl rfl ?_
        refine sF rfl rfl rfl ?_
        refine sN (oPkF rfl (v := (.bool _)) rfl ?_)
        refine sN (oM (v := (.bool _)) rfl ?_)
        refine sF rfl rfl rfl ?_
        refine sN (oPkF rfl (v := (.bool _)) rfl ?_)
        refine sN (oA (v := (.bool _)) rfl ?_)
        obtain rfl := Option.some.inj hv
        exact s0 (Wk.to (eC rfl eN) mN rfl (prK rfl))
    · replace hb16 := bF hb16
      replace hv := iteF hv hb16
      refine sF rfl rfl hb16 ?_
      refine sF rfl rfl hb16 ?_
      refine sF rfl rfl hb16 ?_
      refine sN (oPkF (congrArg LV.bool hb16) (v := (.bool _)) rfl ?_)
      refine sN (oM (v := (.bool _)) rfl ?_)
      refine sF rfl rfl rfl ?_
      refine sF rfl rfl rfl ?_
      refine sF rfl rfl rfl ?_
      refine sN (oPkF rfl (v := (.bool _)) rfl ?_)
      refine sN (oM (v := (.bool _)) rfl ?_)
      refine sF rfl rfl rfl ?_
      refine sF rfl rfl rfl ?_
      refine sF rfl rfl rfl ?_
      refine sN (oPkF rfl (v := (.bool _)) rfl ?_)
      refine sN (oM (v := (.bool _)) rfl ?_)
      refine sF rfl rfl rfl ?_
      refine sF rfl rfl rfl ?_
      refine sF rfl rfl rfl ?_
      refine sF rfl rfl rfl ?_
      refine sF rfl rfl rfl ?_
      refine sN (oPkF rfl (v := (.bool _)) rfl ?_)
      refine sN (oM (v := (.bool _)) rfl ?_)
      refine sF rfl rfl rfl ?_
      refine sF rfl rfl rfl ?_
      refine sF rfl rfl rfl ?_
      refine sF rfl rfl rfl ?_
      refine sF rfl rfl rfl ?_
      refine sN (oPkF rfl (v := (.bool _)) rfl ?_)
      refine sN (oM (v := (.bool _)) rfl ?_)
      refine sF rfl rfl rfl ?_
      refine sN (oPkF rfl (v := (.bool _)) rfl ?_)
      refine sN (oA (v := (.bool _)) rfl ?_)
      obtain rfl := Option.some.inj hv
      exact s0 (Wk.to (eC rfl eN) mN rfl (prK rfl))
  clear hv
  refine LH.ret ?_
  obtain rfl := Option.some.inj h
  exact retE (congrArg Array.toList Try.results10) (lrT rfl (lr0 ⟨memN mN, rfl, prK rfl, Sub.rfl⟩))

end Go.Proofs.Ytapnjifcfljmmaa
