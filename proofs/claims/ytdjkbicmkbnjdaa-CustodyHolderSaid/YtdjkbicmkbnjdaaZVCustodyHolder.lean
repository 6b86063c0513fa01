import Derived.Test.YtdjkbicmkbnjdaaZW2
set_option linter.unusedVariables false
set_option linter.unusedSimpArgs false
set_option maxRecDepth 100000
namespace Go.Proofs.Ytdjkbicmkbnjdaa
open Go.L Go.Sh
theorem make_New_ok0 {p0 : List Int} {r : GTape} (h : make_New p0 = some r) : LCall Try.prog 9 [.L p0] (Mem.of []) (.ptr 110 0) (Mem.of [(110, .box [.L r.L, .I r.At])]) := by
  unfold make_New at h
  refine bodyT Try.func9 rfl (by rw [Try.ntmps9]; exact Nat.le_of_ble_eq_true rfl) ?_
  refine LH.wk (Wk.eq (el := [(0, .L p0)]) (ml := []) rfl rfl rfl rfl) ?_
  refine LH.seqT [(0, .L p0)] [] rfl ?_ ?_
  ·refine sN (oA (v := .nilp) rfl ?_)
   exact s0 (Wk.eq rfl rfl rfl rfl)
  refine LH.seq ?_
  refine LH.seqT [(0, .L p0), (5, .bool (decide ((p0.length : Int) > 600)))] [] rfl ?_ ?_
  ·refine sMl rfl ?_
   refine sN (oLnL (f := LV.I) te22 rfl ?_)
   refine sN (oGt rfl rfl ?_)
   exact s0 (Wk.eq rfl rfl rfl rfl)
  refine LH.cond (t := (decide ((p0.length : Int) > 600))) rfl (fun hc1 => ?_) (fun hc1 => ?_)
  ·replace h := iteT h hc1
   obtain ⟨v2, hv2, h⟩ := bindS h
   refine LH.loneT [(0, .L v2)] [] rfl ?_ ?_
   ·refine sMl rfl ?_
    refine sN (oSl (f := LV.I) te22 tk3 ts3 rfl rfl rfl hv2 ?_)
    refine sAl rfl ?_
    exact s0 (Wk.eq rfl rfl rfl rfl)
   refine thenN ?_
   refine LH.seqT [(2, .ptr 110 0)] [(110, .box [.L v2, .I 0])] rfl ?_ ?_
   ·refine sMl rfl ?_
    refine sN (oBd (vs := [(0, .L v2)]) tu62 tz62 rfl (lf tf62_0 ts22 tk22 rfl rfl rfl lf0) ?_)
    refine sN (oBx (id := 110) rfl rfl rfl rfl rfl rfl ?_)
    refine sAp rfl ?_
    exact s0 (Wk.eq rfl rfl rfl rfl)
   refine LH.ret ?_
   obtain rfl := Option.some.inj h
   exact retE (congrArg Array.toList Try.results9) (lrT rfl (lr0 ⟨memN (mC rfl mN), rfl, prK rfl, Sub.rfl⟩))
  replace h := iteF h hc1
  refine LH.skip ?_
  refine thenN ?_
  refine LH.seqT [(2, .ptr 110 0)] [(110, .box [.L p0, .I 0])] rfl ?_ ?_
  ·refine sMl rfl ?_
   refine sN (oBd (vs := [(0, .L p0)]) tu62 tz62 rfl (lf tf62_0 ts22 tk22 rfl rfl rfl lf0) ?_)
   refine sN (oBx (id := 110) rfl rfl rfl rfl rfl rfl ?_)
   refine sAp rfl ?_
   exact s0 (Wk.eq rfl rfl rfl rfl)
  refine LH.ret ?_
  obtain rfl := Option.some.inj h
  exact retE (congrArg Array.toList Try.results9) (lrT rfl (lr0 ⟨memN (mC rfl mN), rfl, prK rfl, Sub.rfl⟩))
theorem make_New_ok {p0 : List Int} {r : GTape} (h : make_New p0 = some r) : LCall Try.prog 9 [.L p0] (Mem.of []) (.ptr 7 0) (Mem.of [(7, .box [.L r.L, .I r.At])]) := LCall.renamePtr 7 rfl (make_New_ok0 h)

theorem GTape_Raw_ok {p0 : GTape} {r : Int × GTape} (h : GTape_Raw p0 = some r) : LCall Try.prog 36 [.ptr 7 0] (Mem.of [(7, .box [.L p0.L, .I p0.At])]) (.I r.1) (Mem.of [(7, .box [.L r.2.L, .I r.2.At])]) := by
  unfold GTape_Raw at h
  refine bodyT Try.func36 rfl (by rw [Try.ntmps36]; exact Nat.le_of_ble_eq_true rfl) ?_
  refine LH.wk (Wk.eq (el := [(0, .ptr 7 0)]) (ml := [(7, .box [.L p0.L, .I p0.At])]) rfl rfl rfl rfl) ?_
  refine LH.seqT [(0, .ptr 7 0)] [(7, .box [.L p0.L, .I p0.At])] rfl ?_ ?_
  ·refine sAi rfl ?_
   exact s0 (Wk.eq rfl rfl rfl rfl)
  refine LH.seq ?_
  refine LH.seqJM mixed [] [0, 0, 0, 1007, 0, 0, 0, 1007, 0, 0] [(0, .ptr 7 0), (12, .bool (decide (p0.At ≥ (p0.L.length : Int))))] [(7, .box [.L p0.L, .I p0.At])] rfl rfl (by kernel_rfl) ?_ ?_
  ·refine mN0 (oM (v := (.ptr _ _)) rfl ⟨rfl, ?_⟩)
   refine mN0 (oNC rfl ⟨rfl, ?_⟩)
   refine mN0 (oFa tf62_1 tk3 ts3 rfl rfl ⟨rfl, ?_⟩)
   refine mD rfl rfl rfl (fun m0 hm0 K0 hK0 => oLdP rfl hm0 rfl rfl tk3 ta3 hK0) ?_
   refine mN0 (oM (v := (.ptr _ _)) rfl ⟨rfl, ?_⟩)
   refine mN0 (oNC rfl ⟨rfl, ?_⟩)
   refine mN0 (oFa tf62_0 tk22 ts22 rfl rfl ⟨rfl, ?_⟩)
   refine mD rfl rfl rfl (fun m0 hm0 K0 hK0 => oLdP rfl hm0 rfl rfl tk22 ta22 hK0) ?_
   refine mN0 (oLnL (f := LV.I) te22 rfl ⟨rfl, ?_⟩)
   refine mN0 (oGe rfl rfl ⟨rfl, ?_⟩)
   exact m0 (Wk.eq rfl rfl rfl rfl)
  refine LH.cond (t := (decide (p0.At ≥ (p0.L.length : Int)))) rfl (fun hc1 => ?_) (fun hc1 => ?_)
  ·replace h := iteT h hc1
   refine LH.seqT [(2, .I 0)] [(7, .box [.L p0.L, .I p0.At])] rfl ?_ ?_
   ·refine sAi rfl ?_
    exact s0 (Wk.eq rfl rfl rfl rfl)
   refine LH.ret ?_
   refine thenR ?_
   obtain rfl := Option.some.inj h
   exact retE (congrArg Array.toList Try.results36) (lrT rfl (lr0 ⟨memN (mC rfl mN), rfl, prK rfl, Sub.rfl⟩))
  replace h := iteF h hc1
  refine LH.skip ?_
  refine thenN ?_
  refine LH.seqT [(0, .ptr 7 0)] [(7, .box [.L p0.L, .I (i64 (p0.At + 1))])] rfl ?_ ?_
  ·refine sMp rfl ?_
   refine sN (oNC rfl ?_)
   refine sN (oFa tf62_1 tk3 ts3 rfl rfl ?_)
   refine sN (oLdP rfl rfl rfl rfl tk3 ta3 ?_)
   refine sN (oAdd rfl rfl ?_)
   refine sN (oNC rfl ?_)
   refine sN (oFa tf62_1 tk3 ts3 rfl rfl ?_)
   refine s_ (oSt rfl rfl rfl tk3 ts3 rfl rfl rfl ?_)
   exact s0 (Wk.eq rfl rfl rfl rfl)
  obtain ⟨x2, hx2, h⟩ := bindS h
  refine LH.seqJM mixed [] [0, 0, 0, 1007, 0, 0, 0, 1007, 0, 0, 0, 0] [(2, .I x2)] [(7, .box [.L p0.L, .I (i64 (p0.At + 1))])] rfl rfl (by kernel_rfl) ?_ ?_
  ·refine mN0 (oM (v := (.ptr _ _)) rfl ⟨rfl, ?_⟩)
   refine mN0 (oNC rfl ⟨rfl, ?_⟩)
   refine mN0 (oFa tf62_0 tk22 ts22 rfl rfl ⟨rfl, ?_⟩)
   refine mD rfl rfl rfl (fun m0 hm0 K0 hK0 => oLdP rfl hm0 rfl rfl tk22 ta22 hK0) ?_
   refine mN0 (oM (v := (.ptr _ _)) rfl ⟨rfl, ?_⟩)
   refine mN0 (oNC rfl ⟨rfl, ?_⟩)
   refine mN0 (oFa tf62_1 tk3 ts3 rfl rfl ⟨rfl, ?_⟩)
   refine mD rfl rfl rfl (fun m0 hm0 K0 hK0 => oLdP rfl hm0 rfl rfl tk3 ta3 hK0) ?_
   refine mN0 (oSub rfl rfl ⟨rfl, ?_⟩)
   refine mN0 (oIx (f := LV.I) te22 tk3 ts3 rfl rfl okI hx2 rfl ⟨rfl, ?_⟩)
   refine mN0 (oLd rfl tk3 ta3 ⟨rfl, ?_⟩)
   refine mN0 (oA (v := (.int _ _)) rfl ⟨rfl, ?_⟩)
   exact m0 (Wk.eq rfl rfl rfl rfl)
  refine LH.ret ?_
  obtain rfl := Option.some.inj h
  exact retE (congrArg Array.toList Try.results36) (lrT rfl (lr0 ⟨memN (mC rfl mN), rfl, prK rfl, Sub.rfl⟩))

theorem GTape_Next_ok {p0 : GTape} {p1 : Int} {r : Int × GTape} (h : GTape_Next p0 p1 = some r) : LCall Try.prog 14 [.ptr 7 0, .I p1] (Mem.of [(7, .box [.L p0.L, .I p0.At])]) (.I r.1) (Mem.of [(7, .box [.L r.2.L, .I r.2.At])]) := by
  unfold GTape_Next at h
  refine bodyT Try.func14 rfl (by rw [Try.ntmps14]; exact Nat.le_of_ble_eq_true rfl) ?_
  refine LH.wk (Wk.eq (el := [(0, .ptr 7 0), (1, .I p1)]) (ml := [(7, .box [.L p0.L, .I p0.At])]) rfl rfl rfl rfl) ?_
  refine LH.seqT [(0, .ptr 7 0), (1, .I p1)] [(7, .box [.L p0.L, .I p0.At])] rfl ?_ ?_
  ·refine sAi rfl ?_
   exact s0 (Wk.eq rfl rfl rfl rfl)
  obtain ⟨r1, hr1, h⟩ := bindS h
  obtain ⟨r2, hr2, h⟩ := bindS h
  refine LH.seqT [(4, .I r2)] [(7, .box [.L r1.2.L, .I r1.2.At])] rfl ?_ ?_
  ·refine sMp rfl ?_
   refine sN (oCM (args := [.ptr 7 0]) (ml := [(7, .box [.L p0.L, .I p0.At])]) (ml' := [(7, .box [.L r1.2.L, .I r1.2.At])]) rfl isF36 rfl (sbR sbN) (GTape_Raw_ok hr1) (mC rfl mN) (newI rfl newN) rfl ?_)
   refine sMi rfl ?_
   refine sN (oCP (args := [.I r1.1, .I p1]) rfl isF23 rfl (sbR (sbR sbN)) (make_Cut_ok hr2) rfl ?_)
   refine sAi rfl ?_
   exact s0 (Wk.eq rfl rfl rfl rfl)
  refine LH.ret ?_
  obtain rfl := Option.some.inj h
  exact retE (congrArg Array.toList Try.results14) (lrT rfl (lr0 ⟨memN (mC rfl mN), rfl, prK rfl, Sub.rfl⟩))

theorem GTape_Range_ok {p0 : GTape} {p1 : Int} {p2 : Int} {r : Int × GTape} (h : GTape_Range p0 p1 p2 = some r) : LCall Try.prog 27 [.ptr 7 0, .I p1, .I p2] (Mem.of [(7, .box [.L p0.L, .I p0.At])]) (.I r.1) (Mem.of [(7, .box [.L r.2.L, .I r.2.At])]) := by
  unfold GTape_Range at h
  refine bodyT Try.func27 rfl (by rw [Try.ntmps27]; exact Nat.le_of_ble_eq_true rfl) ?_
  refine LH.wk (Wk.eq (el := [(0, .ptr 7 0), (1, .I p1), (2, .I p2)]) (ml := [(7, .box [.L p0.L, .I p0.At])]) rfl rfl rfl rfl) ?_
  refine LH.seqT [(0, .ptr 7 0), (1, .I p1), (2, .I p2)] [(7, .box [.L p0.L, .I p0.At])] rfl ?_ ?_
  ·refine sAi rfl ?_
   exact s0 (Wk.eq rfl rfl rfl rfl)
  obtain ⟨r1, hr1, h⟩ := bindS h
  refine LH.seqT [(6, .I (i64 (p1 + r1.1)))] [(7, .box [.L r1.2.L, .I r1.2.At])] rfl ?_ ?_
  ·refine sMi rfl ?_
   refine sMp rfl ?_
   refine sMi rfl ?_
   refine sMi rfl ?_
   refine sN (oSub rfl rfl ?_)
   refine sN (oAdd rfl rfl ?_)
   refine sN (oCM (args := [.ptr 7 0, .I (i64 ((i64 (p2 - p1)) + 1))]) (ml := [(7, .box [.L p0.L, .I p0.At])]) (ml' := [(7, .box [.L r1.2.L, .I r1.2.At])]) rfl isF14 rfl (sbR (sbR sbN)) (GTape_Next_ok hr1) (mC rfl mN) (newI rfl newN) rfl ?_)
   refine sN (oAdd rfl rfl ?_)
   refine sAi rfl ?_
   exact s0 (Wk.eq rfl rfl rfl rfl)
  refine LH.ret ?_
  obtain rfl := Option.some.inj h
  exact retE (congrArg Array.toList Try.results27) (lrT rfl (lr0 ⟨memN (mC rfl mN), rfl, prK rfl, Sub.rfl⟩))

theorem GTape_Pick_ok {p0 : GTape} {p1 : List Int} {r : Int × GTape} (h : GTape_Pick p0 p1 = some r) : LCall Try.prog 28 [.ptr 7 0, .L p1] (Mem.of [(7, .box [.L p0.L, .I p0.At])]) (.I r.1) (Mem.of [(7, .box [.L r.2.L, .I r.2.At])]) := by
  unfold GTape_Pick at h
  refine bodyT Try.func28 rfl (by rw [Try.ntmps28]; exact Nat.le_of_ble_eq_true rfl) ?_
  refine LH.wk (Wk.eq (el := [(0, .ptr 7 0), (1, .L p1)]) (ml := [(7, .box [.L p0.L, .I p0.At])]) rfl rfl rfl rfl) ?_
  refine LH.seqT [(0, .ptr 7 0), (1, .L p1)] [(7, .box [.L p0.L, .I p0.At])] rfl ?_ ?_
  ·refine sAi rfl ?_
   exact s0 (Wk.eq rfl rfl rfl rfl)
  obtain ⟨r1, hr1, h⟩ := bindS h
  obtain ⟨x2, hx2, h⟩ := bindS h
  refine LH.seqT [(4, .I x2)] [(7, .box [.L r1.2.L, .I r1.2.At])] rfl ?_ ?_
  ·refine sMl rfl ?_
   refine sMp rfl ?_
   refine sMl rfl ?_
   refine sN (oLnL (f := LV.I) te22 rfl ?_)
   refine sN (oCM (args := [.ptr 7 0, .I (p1.length : Int)]) (ml := [(7, .box [.L p0.L, .I p0.At])]) (ml' := [(7, .box [.L r1.2.L, .I r1.2.At])]) rfl isF14 rfl (sbR (sbR sbN)) (GTape_Next_ok hr1) (mC rfl mN) (newI rfl newN) rfl ?_)
   refine sN (oIx (f := LV.I) te22 tk3 ts3 rfl rfl okI hx2 rfl ?_)
   refine sN (oLd rfl tk3 ta3 ?_)
   refine sAi rfl ?_
   exact s0 (Wk.eq rfl rfl rfl rfl)
  refine LH.ret ?_
  obtain rfl := Option.some.inj h
  exact retE (congrArg Array.toList Try.results28) (lrT rfl (lr0 ⟨memN (mC rfl mN), rfl, prK rfl, Sub.rfl⟩))

theorem GTape_Sorted_ok {F : Nat} {p0 : GTape} {p1 : Int} {r : List Int × GTape} (h : GTape_Sorted F p0 p1 = some r) : LCall Try.prog 29 [.ptr 7 0, .I p1] (Mem.of [(7, .box [.L p0.L, .I p0.At])]) (.arr 181 (List.length r.1)) (Mem.of [(7, .box [.L r.2.L, .I r.2.At]), (181, .arr 3 1 (List.map LV.I r.1))]) := by
  unfold GTape_Sorted at h
  refine bodyT Try.func29 rfl (by rw [Try.ntmps29]; exact Nat.le_of_ble_eq_true rfl) ?_
  refine LH.wk (Wk.eq (el := [(0, .ptr 7 0), (1, .I p1)]) (ml := [(7, .box [.L p0.L, .I p0.At])]) rfl rfl rfl rfl) ?_
  refine LH.seqT [(0, .ptr 7 0), (1, .I p1)] [(7, .box [.L p0.L, .I p0.At])] rfl ?_ ?_
  ·refine sAn rfl ?_
   exact s0 (Wk.eq rfl rfl rfl rfl)
  refine LH.seqT [(0, .ptr 7 0), (1, .I p1), (5, .nil)] [(7, .box [.L p0.L, .I p0.At])] rfl ?_ ?_
  ·refine sAn rfl ?_
   exact s0 (Wk.eq rfl rfl rfl rfl)
  refine LH.seq ?_
  refine LH.seqT [(0, .ptr 7 0), (1, .I p1), (5, .nil), (6, .I 0)] [(7, .box [.L p0.L, .I p0.At])] rfl ?_ ?_
  ·refine sAi rfl ?_
   exact s0 (Wk.eq rfl rfl rfl rfl)
  refine LH.block ?_
  refine LH.wk ((Wk.trans (Wk.eq (el := [(0, .ptr 7 0), (1, .I p1), (5, .nil), (6, .I 0)]) (ml := [(7, .box [.L p0.L, .I p0.At])]) rfl rfl rfl rfl) (Wk.trans (Wk.eq (el := [(0, .ptr 7 0), (1, .I p1), (5, .nil), (6, .I 0)]) (ml := [(7, .box [.L p0.L, .I p0.At])]) rfl rfl rfl rfl) (Wk.trans (Wk.ownL (el' := [(0, .ptr 7 0), (1, .I p1), (5, .arr 118 (List.length ([] : List Int))), (6, .I 0)]) 118 3 1 rfl rfl (wK (wK (wO (wK wN))))) (Wk.eq (el := [(0, .ptr 7 0), (1, .I p1), (5, .arr 118 (List.length ([] : List Int))), (6, .I 0)]) (ml := [(7, .box [.L p0.L, .I p0.At]), (118, .arr 3 1 (List.map LV.I ([] : List Int)))]) rfl rfl rfl rfl))))) ?_
  refine LH.loop (fun n e m => ∃ (n1 : Int) (l2 : List Int) (n3 : Int) (l4 : List Int), GTape_Sorted_L1 p1 n n1 l2 n3 l4 = some r ∧ e = Env.of [(0, .ptr 7 0), (1, .I p1), (5, .arr 118 (List.length l4)), (6, .I n1)] ∧ m = Mem.of [(7, .box [.L l2, .I n3]), (118, .arr 3 1 (List.map LV.I l4))]) F ⟨0, p0.L, p0.At, ([] : List Int), h, rfl, rfl⟩ ?_
  clear h
  rintro n e m ⟨n1, l2, n3, l4, h, rfl, rfl⟩
  rcases n with _ | n
  · cases (show Option.none = some _ from h)
  obtain ⟨rec1, hrec1⟩ : ∃ f, f = GTape_Sorted_L1 p1 n := ⟨_, rfl⟩
  replace h : GTape_Sorted_L1_B p1 rec1 n1 l2 n3 l4 = some r := hrec1 ▸ h
  unfold GTape_Sorted_L1_B at h
  refine LH.seq ?_
  refine LH.seqT [(0, .ptr 7 0), (1, .I p1), (5, .arr 118 (List.length l4)), (6, .I n1), (9, .bool (decide (n1 < p1)))] [(7, .box [.L l2, .I n3]), (118, .arr 3 1 (List.map LV.I l4))] rfl ?_ ?_
  ·refine sMi rfl ?_
   refine sMi rfl ?_
   refine sN (oLt rfl rfl ?_)
   exact s0 (Wk.eq rfl rfl rfl rfl)
  refine LH.cond (t := (decide (n1 < p1))) rfl (fun hc5 => ?_) (fun hc5 => ?_)
  ·replace h := iteT h hc5
   refine LH.skip ?_
   refine thenN ?_
   refine LH.wk (Wk.eq (el := [(0, .ptr 7 0), (1, .I p1), (5, .arr 118 (List.length l4)), (6, .I n1)]) (ml := [(7, .box [.L l2, .I n3]), (118, .arr 3 1 (List.map LV.I l4))]) rfl rfl rfl rfl) ?_
   refine LH.seq ?_
   refine LH.block ?_
   obtain ⟨r6, hr6, h⟩ := bindS h
   refine LH.seqT [(0, .ptr 7 0), (1, .I p1), (5, .arr 118 (List.length l4)), (6, .I n1), (14, .bool (r6.1 == 1))] [(7, .box [.L r6.2.L, .I r6.2.At]), (118, .arr 3 1 (List.map LV.I l4))] rfl ?_ ?_
   ·refine sMp rfl ?_
    refine sN (oCM (args := [.ptr 7 0, .I 2]) (ml := [(7, .box [.L l2, .I n3])]) (ml' := [(7, .box [.L r6.2.L, .I r6.2.At])]) rfl isF14 rfl (sbR (sbR sbN)) (GTape_Next_ok hr6) (mC rfl mN) (newI rfl newN) rfl ?_)
    refine sN (oEq rfl rfl ?_)
    exact s0 (Wk.eq rfl rfl rfl rfl)
   refine LH.cond (t := (r6.1 == 1)) rfl (fun hc7 => ?_) (fun hc7 => ?_)
   ·replace h := iteT h hc7
    obtain ⟨v8, hv8, h⟩ := bindS h
    refine LH.loneT [(0, .ptr 7 0), (1, .I p1), (5, .arr 118 (List.length v8)), (6, .I n1)] [(7, .box [.L r6.2.L, .I r6.2.At]), (118, .arr 3 1 (List.map LV.I v8))] rfl ?_ ?_
    ·refine sMa rfl ?_
     refine sMi rfl ?_
     refine sN (oBS (f := LV.I) (ys := [n1]) te22 tr3 ts3 rfl rfl rfl okI ?_)
     refine sN (oAp (f := LV.I) te22 tr3 ts3 rfl rfl (prN rfl) rfl hv8 ?_)
     refine sAa rfl ?_
     exact s0 (Wk.eq rfl rfl rfl rfl)
    refine blockN ?_
    refine thenN ?_
    refine LH.loneT [(0, .ptr 7 0), (1, .I p1), (5, .arr 118 (List.length v8)), (6, .I (i64 (n1 + 1)))] [(7, .box [.L r6.2.L, .I r6.2.At]), (118, .arr 3 1 (List.map LV.I v8))] rfl ?_ ?_
    ·refine sMi rfl ?_
     refine sN (oAdd rfl rfl ?_)
     refine sAi rfl ?_
     exact s0 (Wk.eq rfl rfl rfl rfl)
    exact roundI ⟨(i64 (n1 + 1)), r6.2.L, r6.2.At, v8, hrec1 ▸ h, rfl, rfl⟩ (Wk.eq rfl rfl rfl rfl)
   replace h := iteF h hc7
   refine LH.skip ?_
   refine blockN ?_
   refine thenN ?_
   refine LH.loneT [(0, .ptr 7 0), (1, .I p1), (5, .arr 118 (List.length l4)), (6, .I (i64 (n1 + 1)))] [(7, .box [.L r6.2.L, .I r6.2.At]), (118, .arr 3 1 (List.map LV.I l4))] rfl ?_ ?_
   ·refine sMi rfl ?_
    refine sN (oAdd rfl rfl ?_)
    refine sAi rfl ?_
    exact s0 (Wk.eq rfl rfl rfl rfl)
   exact roundI ⟨(i64 (n1 + 1)), r6.2.L, r6.2.At, l4, hrec1 ▸ h, rfl, rfl⟩ (Wk.eq rfl rfl rfl rfl)
  replace h := iteF h hc5
  refine LH.exit ?_
  refine thenX ?_
  refine roundX ?_
  refine blockH ?_
  refine thenN ?_
  refine LH.seqT [(4, .arr 118 (List.length l4))] [(7, .box [.L l2, .I n3]), (118, .arr 3 1 (List.map LV.I l4))] rfl ?_ ?_
  ·refine sMa rfl ?_
   refine sAa rfl ?_
   exact s0 (Wk.eq rfl rfl rfl rfl)
  refine LH.wk ((Wk.trans (Wk.eq (el := [(4, .arr 118 (List.length l4))]) (ml := [(7, .box [.L l2, .I n3]), (118, .arr 3 1 (List.map LV.I l4))]) rfl rfl rfl rfl) (Wk.trans (Wk.ren 118 181 rfl rfl rfl rfl rfl (prN rfl)) (Wk.eq (el := [(4, .arr 181 (List.length l4))]) (ml := [(7, .box [.L l2, .I n3]), (181, .arr 3 1 (List.map LV.I l4))]) rfl rfl rfl rfl)))) ?_
  refine LH.ret ?_
  obtain rfl := Option.some.inj h
  exact retE (congrArg Array.toList Try.results29) (lrT rfl (lr0 ⟨memN (mC rfl (mC rfl mN)), rfl, prK rfl, Sub.rfl⟩))

theorem GTape_One_ok {p0 : GTape} {p1 : Int} {r : Bool × GTape} (h : GTape_One p0 p1 = some r) : LCall Try.prog 30 [.ptr 7 0, .I p1] (Mem.of [(7, .box [.L p0.L, .I p0.At])]) (.bool r.1) (Mem.of [(7, .box [.L r.2.L, .I r.2.At])]) := by
  unfold GTape_One at h
  refine bodyT Try.func30 rfl (by rw [Try.ntmps30]; exact Nat.le_of_ble_eq_true rfl) ?_
  refine LH.wk (Wk.eq (el := [(0, .ptr 7 0), (1, .I p1)]) (ml := [(7, .box [.L p0.L, .I p0.At])]) rfl rfl rfl rfl) ?_
  refine LH.seqT [(0, .ptr 7 0), (1, .I p1)] [(7, .box [.L p0.L, .I p0.At])] rfl ?_ ?_
  ·refine sAb rfl ?_
   exact s0 (Wk.eq rfl rfl rfl rfl)
  obtain ⟨r1, hr1, h⟩ := bindS h
  refine LH.seqT [(4, .bool (r1.1 == (i64 (p1 - 1))))] [(7, .box [.L r1.2.L, .I r1.2.At])] rfl ?_ ?_
  ·refine sMp rfl ?_
   refine sMi rfl ?_
   refine sN (oCM (args := [.ptr 7 0, .I p1]) (ml := [(7, .box [.L p0.L, .I p0.At])]) (ml' := [(7, .box [.L r1.2.L, .I r1.2.At])]) rfl isF14 rfl (sbR (sbR sbN)) (GTape_Next_ok hr1) (mC rfl mN) (newI rfl newN) rfl ?_)
   refine sMi rfl ?_
   refine sN (oSub rfl rfl ?_)
   refine sN (oEq rfl rfl ?_)
   refine sAb rfl ?_
   exact s0 (Wk.eq rfl rfl rfl rfl)
  refine LH.ret ?_
  obtain rfl := Option.some.inj h
  exact retE (congrArg Array.toList Try.results30) (lrT rfl (lr0 ⟨memN (mC rfl mN), rfl, prK rfl, Sub.rfl⟩))

theorem GTape_Wild_ok {p0 : GTape} {r : Int × GTape} (h : GTape_Wild p0 = some r) : LCall Try.prog 45 [.ptr 7 0] (Mem.of [(7, .box [.L p0.L, .I p0.At])]) (.I r.1) (Mem.of [(7, .box [.L r.2.L, .I r.2.At])]) := by
  unfold GTape_Wild at h
  refine bodyT Try.func45 rfl (by rw [Try.ntmps45]; exact Nat.le_of_ble_eq_true rfl) ?_
  refine LH.wk (Wk.eq (el := [(0, .ptr 7 0)]) (ml := [(7, .box [.L p0.L, .I p0.At])]) rfl rfl rfl rfl) ?_
  refine LH.seqT [(0, .ptr 7 0)] [(7, .box [.L p0.L, .I p0.At])] rfl ?_ ?_
  ·refine sAi rfl ?_
   exact s0 (Wk.eq rfl rfl rfl rfl)
  obtain ⟨r1, hr1, h⟩ := bindS h
  refine LH.seqT [(2, .I r1.1)] [(7, .box [.L r1.2.L, .I r1.2.At])] rfl ?_ ?_
  ·refine sMp rfl ?_
   refine sN (oBS (f := LV.I) (ys := [(-1), 0, 1, 2, 31, 32, 99, 100, 200, 201, 9999, 10000, 1000000, 1000001, 1152921504606846976, 1152921504606846977, (-1152921504606846976), 9223372036854775807, (-9223372036854775808)]) te22 tr3 ts3 rfl rfl rfl okI ?_)
   refine sN (oCM (args := [.ptr 7 0, .L [(-1), 0, 1, 2, 31, 32, 99, 100, 200, 201, 9999, 10000, 1000000, 1000001, 1152921504606846976, 1152921504606846977, (-1152921504606846976), 9223372036854775807, (-9223372036854775808)]]) (ml := [(7, .box [.L p0.L, .I p0.At])]) (ml' := [(7, .box [.L r1.2.L, .I r1.2.At])]) rfl isF28 rfl (sbR (sbR sbN)) (GTape_Pick_ok hr1) (mC rfl mN) (newI rfl newN) rfl ?_)
   refine sAi rfl ?_
   exact s0 (Wk.eq rfl rfl rfl rfl)
  refine LH.ret ?_
  obtain rfl := Option.some.inj h
  exact retE (congrArg Array.toList Try.results45) (lrT rfl (lr0 ⟨memN (mC rfl mN), rfl, prK rfl, Sub.rfl⟩))

theorem GTape_Stamp_ok {p0 : GTape} {p1 : Int} {r : GStamp × GTape} (h : GTape_Stamp p0 p1 = some r) : LCall Try.prog 31 [.ptr 7 0, .I p1] (Mem.of [(7, .box [.L p0.L, .I p0.At])]) (.agg [.I r.1.Time, .I r.1.Source, .I r.1.Seq]) (Mem.of [(7, .box [.L r.2.L, .I r.2.At])]) := by
  unfold GTape_Stamp at h
  refine bodyT Try.func31 rfl (by rw [Try.ntmps31]; exact Nat.le_of_ble_eq_true rfl) ?_
  refine LH.wk (Wk.eq (el := [(0, .ptr 7 0), (1, .I p1)]) (ml := [(7, .box [.L p0.L, .I p0.At])]) rfl rfl rfl rfl) ?_
  refine LH.seqT [(0, .ptr 7 0), (1, .I p1), (4, .ptr 104 0)] [(7, .box [.L p0.L, .I p0.At]), (104, .box [.I 0, .I 0, .I 0])] rfl ?_ ?_
  ·refine sN (oAl (id := 104) rfl tz32 rfl rfl ?_)
   exact s0 (Wk.eq rfl rfl rfl rfl)
  obtain ⟨r1, hr1, h⟩ := bindS h
  obtain ⟨r2, hr2, h⟩ := bindS h
  obtain ⟨r3, hr3, h⟩ := bindS h
  refine LH.seqT [(0, .ptr 7 0), (1, .I p1), (4, .ptr 104 0), (5, .ptr 105 0)] [(7, .box [.L r3.2.L, .I r3.2.At]), (104, .box [.I 0, .I 0, .I 0]), (105, .box [.I r1.1, .I r2.1, .I r3.1])] rfl ?_ ?_
  ·refine sMp rfl ?_
   refine sN (oCM (args := [.ptr 7 0, .I 0, .I 24]) (ml := [(7, .box [.L p0.L, .I p0.At])]) (ml' := [(7, .box [.L r1.2.L, .I r1.2.At])]) rfl isF27 rfl (sbR (sbR (sbR sbN))) (GTape_Range_ok hr1) (mC rfl mN) (newI rfl newN) rfl ?_)
   refine sMp rfl ?_
   refine sN (oCM (args := [.ptr 7 0, .I 0, .I 3]) (ml := [(7, .box [.L r1.2.L, .I r1.2.At])]) (ml' := [(7, .box [.L r2.2.L, .I r2.2.At])]) rfl isF27 rfl (sbR (sbR (sbR sbN))) (GTape_Range_ok hr2) (mC rfl mN) (newI rfl newN) rfl ?_)
   refine sMp rfl ?_
   refine sN (oCM (args := [.ptr 7 0, .I 0, .I 9]) (ml := [(7, .box [.L r2.2.L, .I r2.2.At])]) (ml' := [(7, .box [.L r3.2.L, .I r3.2.At])]) rfl isF27 rfl (sbR (sbR (sbR sbN))) (GTape_Range_ok hr3) (mC rfl mN) (newI rfl newN) rfl ?_)
   refine sN (oBd (vs := [(0, .I r1.1), (1, .I r2.1), (2, .I r3.1)]) tu32 tz32 rfl (lf tf32_0 ts3 tk3 rfl rfl rfl (lf tf32_1 ts3 tk3 rfl rfl rfl (lf tf32_2 ts3 tk3 rfl rfl rfl lf0))) ?_)
   refine sN (oAl (id := 105) rfl tz32 rfl rfl ?_)
   refine s_ (oSt rfl rfl rfl tk32 ts32 rfl rfl rfl ?_)
   exact s0 (Wk.eq rfl rfl rfl rfl)
  refine LH.seq ?_
  obtain ⟨w7, hv, h⟩ := bindS h
  refine LH.seqT [(0, .ptr 7 0), (4, .ptr 104 0), (5, .ptr 105 0), (19, .bool w7.1)] [(7, .box [.L w7.2.1, .I w7.2.2]), (104, .box [.I 0, .I 0, .I 0]), (105, .box [.I r1.1, .I r2.1, .I r3.1])] rfl ?_ ?_
  ·refine sMi rfl ?_
   refine sN (oGt rfl rfl ?_)
   refine sMb rfl ?_
   by_cases hb8 : (decide (p1 > 0)) = true
   ·replace hv := iteT hv hb8
    refine sT rfl (congrArg LV.bool hb8) (oM (v := (.ptr _ _)) rfl ?_)
    refine sT rfl (congrArg LV.bool hb8) (oM (v := (.int _ _)) rfl ?_)
    obtain ⟨r9, hr9, hv⟩ := bindS hv
    refine sT rfl (congrArg LV.bool hb8) (oCM (args := [.ptr 7 0, .I p1]) (ml := [(7, .box [.L r3.2.L, .I r3.2.At])]) (ml' := [(7, .box [.L r9.2.L, .I r9.2.At])]) rfl isF30 rfl (sbR (sbR sbN)) (GTape_One_ok hr9) (mC rfl mN) (newI rfl newN) rfl ?_)
    refine sN (oPkT (congrArg LV.bool hb8) (v := (.bool _)) rfl ?_)
    obtain rfl := Option.some.inj hv
    exact s0 (Wk.eq rfl rfl rfl rfl)
   ·replace hb8 := bF hb8
    replace hv := iteF hv hb8
    refine sF rfl rfl hb8 ?_
    refine sF rfl rfl hb8 ?_
    refine sF rfl rfl hb8 ?_
    refine sN (oPkF (congrArg LV.bool hb8) (v := (.bool _)) rfl ?_)
    obtain rfl := Option.some.inj hv
    exact s0 (Wk.eq rfl rfl rfl rfl)
  clear hv
  refine LH.cond (t := w7.1) rfl (fun hc10 => ?_) (fun hc10 => ?_)
  ·replace h := iteT h hc10
   obtain ⟨r11, hr11, h⟩ := bindS h
   refine LH.seqT [(0, .ptr 7 0), (4, .ptr 104 0), (5, .ptr 105 0), (21, .I r11.1)] [(7, .box [.L r11.2.L, .I r11.2.At]), (104, .box [.I 0, .I 0, .I 0]), (105, .box [.I r1.1, .I r2.1, .I r3.1])] rfl ?_ ?_
   ·refine sMp rfl ?_
    refine sN (oCM (args := [.ptr 7 0, .I 3]) (ml := [(7, .box [.L w7.2.1, .I w7.2.2])]) (ml' := [(7, .box [.L r11.2.L, .I r11.2.At])]) rfl isF14 rfl (sbR (sbR sbN)) (GTape_Next_ok hr11) (mC rfl mN) (newI rfl newN) rfl ?_)
    exact s0 (Wk.eq rfl rfl rfl rfl)
   refine LH.block ?_
   refine LH.seqT [(0, .ptr 7 0), (4, .ptr 104 0), (5, .ptr 105 0), (21, .I r11.1), (25, .bool (r11.1 == 0))] [(7, .box [.L r11.2.L, .I r11.2.At]), (104, .box [.I 0, .I 0, .I 0]), (105, .box [.I r1.1, .I r2.1, .I r3.1])] rfl ?_ ?_
   ·refine sN (oEq rfl rfl ?_)
    refine sAb rfl ?_
    exact s0 (Wk.eq rfl rfl rfl rfl)
   refine LH.cond (t := (r11.1 == 0)) rfl (fun hc12 => ?_) (fun hc12 => ?_)
   ·replace h := iteT h hc12
    obtain ⟨r13, hr13, h⟩ := bindS h
    refine LH.loneT [(4, .ptr 104 0), (5, .sptr [.I r13.1, .I r2.1, .I r3.1])] [(7, .box [.L r13.2.L, .I r13.2.At]), (104, .box [.I 0, .I 0, .I 0])] rfl ?_ ?_
    ·refine sMp rfl ?_
     refine sN (oCM (args := [.ptr 7 0]) (ml := [(7, .box [.L r11.2.L, .I r11.2.At])]) (ml' := [(7, .box [.L r13.2.L, .I r13.2.At])]) rfl isF45 rfl (sbR sbN) (GTape_Wild_ok hr13) (mC rfl mN) (newI rfl newN) rfl ?_)
     refine sN (oFa tf32_0 tk3 ts3 rfl rfl ?_)
     refine s_ (oSt rfl rfl rfl tk3 ts3 rfl rfl rfl ?_)
     exact s0 ((Wk.trans (Wk.eq (el := [(4, .ptr 104 0), (5, .ptr 105 0)]) (ml := [(7, .box [.L r13.2.L, .I r13.2.At]), (104, .box [.I 0, .I 0, .I 0]), (105, .box [.I r13.1, .I r2.1, .I r3.1])]) rfl rfl rfl rfl) (Wk.trans (Wk.frzB 105 [.I r13.1, .I r2.1, .I r3.1] rfl rfl rfl (prN rfl)) (Wk.eq rfl rfl rfl rfl))))
    refine blockN ?_
    refine thenN ?_
    refine LH.seqT [(4, .sptr [.I r13.1, .I r2.1, .I r3.1])] [(7, .box [.L r13.2.L, .I r13.2.At])] rfl ?_ ?_
    ·refine sN (oLdA rfl tk32 ta32 ts32 rfl rfl ?_)
     refine s_ (oSt rfl rfl rfl tk32 ts32 rfl rfl rfl ?_)
     exact s0 ((Wk.trans (Wk.eq (el := [(4, .ptr 104 0)]) (ml := [(7, .box [.L r13.2.L, .I r13.2.At]), (104, .box [.I r13.1, .I r2.1, .I r3.1])]) rfl rfl rfl rfl) (Wk.trans (Wk.frzB 104 [.I r13.1, .I r2.1, .I r3.1] rfl rfl rfl (prN rfl)) (Wk.eq rfl rfl rfl rfl))))
    refine LH.ret ?_
    obtain rfl := Option.some.inj h
    exact retE (congrArg Array.toList Try.results31) (lrSA rfl tk32 ta32 ts32 rfl rfl (lr0 ⟨memN (mC rfl mN), rfl, prK rfl, Sub.rfl⟩))
   replace h := iteF h hc12
   refine LH.seqT [(0, .ptr 7 0), (4, .ptr 104 0), (5, .ptr 105 0), (30, .bool (r11.1 == 1))] [(7, .box [.L r11.2.L, .I r11.2.At]), (104, .box [.I 0, .I 0, .I 0]), (105, .box [.I r1.1, .I r2.1, .I r3.1])] rfl ?_ ?_
   ·refine sN (oEq rfl rfl ?_)
    refine sAb rfl ?_
    exact s0 (Wk.eq rfl rfl rfl rfl)
   refine LH.cond (t := (r11.1 == 1)) rfl (fun hc14 => ?_) (fun hc14 => ?_)
   ·replace h := iteT h hc14
    obtain ⟨r15, hr15, h⟩ := bindS h
    refine LH.loneT [(4, .ptr 104 0), (5, .sptr [.I r1.1, .I r15.1, .I r3.1])] [(7, .box [.L r15.2.L, .I r15.2.At]), (104, .box [.I 0, .I 0, .I 0])] rfl ?_ ?_
    ·refine sMp rfl ?_
     refine sN (oCM (args := [.ptr 7 0]) (ml := [(7, .box [.L r11.2.L, .I r11.2.At])]) (ml' := [(7, .box [.L r15.2.L, .I r15.2.At])]) rfl isF45 rfl (sbR sbN) (GTape_Wild_ok hr15) (mC rfl mN) (newI rfl newN) rfl ?_)
     refine sN (oFa tf32_1 tk3 ts3 rfl rfl ?_)
     refine s_ (oSt rfl rfl rfl tk3 ts3 rfl rfl rfl ?_)
     exact s0 ((Wk.trans (Wk.eq (el := [(4, .ptr 104 0), (5, .ptr 105 0)]) (ml := [(7, .box [.L r15.2.L, .I r15.2.At]), (104, .box [.I 0, .I 0, .I 0]), (105, .box [.I r1.1, .I r15.1, .I r3.1])]) rfl rfl rfl rfl) (Wk.trans (Wk.frzB 105 [.I r1.1, .I r15.1, .I r3.1] rfl rfl rfl (prN rfl)) (Wk.eq rfl rfl rfl rfl))))
    refine blockN ?_
    refine thenN ?_
    refine LH.seqT [(4, .sptr [.I r1.1, .I r15.1, .I r3.1])] [(7, .box [.L r15.2.L, .I r15.2.At])] rfl ?_ ?_
    ·refine sN (oLdA rfl tk32 ta32 ts32 rfl rfl ?_)
     refine s_ (oSt rfl rfl rfl tk32 ts32 rfl rfl rfl ?_)
     exact s0 ((Wk.trans (Wk.eq (el := [(4, .ptr 104 0)]) (ml := [(7, .box [.L r15.2.L, .I r15.2.At]), (104, .box [.I r1.1, .I r15.1, .I r3.1])]) rfl rfl rfl rfl) (Wk.trans (Wk.frzB 104 [.I r1.1, .I r15.1, .I r3.1] rfl rfl rfl (prN rfl)) (Wk.eq rfl rfl rfl rfl))))
    refine LH.ret ?_
    obtain rfl := Option.some.inj h
    exact retE (congrArg Array.toList Try.results31) (lrSA rfl tk32 ta32 ts32 rfl rfl (lr0 ⟨memN (mC rfl mN), rfl, prK rfl, Sub.rfl⟩))
   replace h := iteF h hc14
   obtain ⟨r16, hr16, h⟩ := bindS h
   refine LH.loneT [(4, .ptr 104 0), (5, .sptr [.I r1.1, .I r2.1, .I r16.1])] [(7, .box [.L r16.2.L, .I r16.2.At]), (104, .box [.I 0, .I 0, .I 0])] rfl ?_ ?_
   ·refine sMp rfl ?_
    refine sN (oCM (args := [.ptr 7 0]) (ml := [(7, .box [.L r11.2.L, .I r11.2.At])]) (ml' := [(7, .box [.L r16.2.L, .I r16.2.At])]) rfl isF45 rfl (sbR sbN) (GTape_Wild_ok hr16) (mC rfl mN) (newI rfl newN) rfl ?_)
    refine sN (oFa tf32_2 tk3 ts3 rfl rfl ?_)
    refine s_ (oSt rfl rfl rfl tk3 ts3 rfl rfl rfl ?_)
    exact s0 ((Wk.trans (Wk.eq (el := [(4, .ptr 104 0), (5, .ptr 105 0)]) (ml := [(7, .box [.L r16.2.L, .I r16.2.At]), (104, .box [.I 0, .I 0, .I 0]), (105, .box [.I r1.1, .I r2.1, .I r16.1])]) rfl rfl rfl rfl) (Wk.trans (Wk.frzB 105 [.I r1.1, .I r2.1, .I r16.1] rfl rfl rfl (prN rfl)) (Wk.eq rfl rfl rfl rfl))))
   refine blockN ?_
   refine thenN ?_
   refine LH.seqT [(4, .sptr [.I r1.1, .I r2.1, .I r16.1])] [(7, .box [.L r16.2.L, .I r16.2.At])] rfl ?_ ?_
   ·refine sN (oLdA rfl tk32 ta32 ts32 rfl rfl ?_)
    refine s_ (oSt rfl rfl rfl tk32 ts32 rfl rfl rfl ?_)
    exact s0 ((Wk.trans (Wk.eq (el := [(4, .ptr 104 0)]) (ml := [(7, .box [.L r16.2.L, .I r16.2.At]), (104, .box [.I r1.1, .I r2.1, .I r16.1])]) rfl rfl rfl rfl) (Wk.trans (Wk.frzB 104 [.I r1.1, .I r2.1, .I r16.1] rfl rfl rfl (prN rfl)) (Wk.eq rfl rfl rfl rfl))))
   refine LH.ret ?_
   obtain rfl := Option.some.inj h
   exact retE (congrArg Array.toList Try.results31) (lrSA rfl tk32 ta32 ts32 rfl rfl (lr0 ⟨memN (mC rfl mN), rfl, prK rfl, Sub.rfl⟩))
  replace h := iteF h hc10
  refine LH.skip ?_
  refine thenN ?_
  refine LH.wk ((Wk.trans (Wk.eq (el := [(4, .ptr 104 0), (5, .ptr 105 0)]) (ml := [(7, .box [.L w7.2.1, .I w7.2.2]), (104, .box [.I 0, .I 0, .I 0]), (105, .box [.I r1.1, .I r2.1, .I r3.1])]) rfl rfl rfl rfl) (Wk.trans (Wk.frzB 105 [.I r1.1, .I r2.1, .I r3.1] rfl rfl rfl (prN rfl)) (Wk.eq (el := [(4, .ptr 104 0), (5, .sptr [.I r1.1, .I r2.1, .I r3.1])]) (ml := [(7, .box [.L w7.2.1, .I w7.2.2]), (104, .box [.I 0, .I 0, .I 0])]) rfl rfl rfl rfl)))) ?_
  refine LH.seqT [(4, .sptr [.I r1.1, .I r2.1, .I r3.1])] [(7, .box [.L w7.2.1, .I w7.2.2])] rfl ?_ ?_
  ·refine sN (oLdA rfl tk32 ta32 ts32 rfl rfl ?_)
   refine s_ (oSt rfl rfl rfl tk32 ts32 rfl rfl rfl ?_)
   exact s0 ((Wk.trans (Wk.eq (el := [(4, .ptr 104 0)]) (ml := [(7, .box [.L w7.2.1, .I w7.2.2]), (104, .box [.I r1.1, .I r2.1, .I r3.1])]) rfl rfl rfl rfl) (Wk.trans (Wk.frzB 104 [.I r1.1, .I r2.1, .I r3.1] rfl rfl rfl (prN rfl)) (Wk.eq rfl rfl rfl rfl))))
  refine LH.ret ?_
  obtain rfl := Option.some.inj h
  exact retE (congrArg Array.toList Try.results31) (lrSA rfl tk32 ta32 ts32 rfl rfl (lr0 ⟨memN (mC rfl mN), rfl, prK rfl, Sub.rfl⟩))

set_option maxHeartbeats 4000000 in
theorem GTape_BagEvents_ok {F : Nat} {p0 : GTape} {p1 : Int} {p2 : Int} {r : List GBagEvent × GTape} (h : GTape_BagEvents F p0 p1 p2 = some r) : LCall Try.prog 10 [.ptr 7 0, .I p1, .I p2] (Mem.of [(7, .box [.L p0.L, .I p0.At])]) (.lst 9 (List.map GBagEvent.lv r.1)) (Mem.of [(7, .box [.L r.2.L, .I r.2.At])]) := by
  unfold GTape_BagEvents at h
  refine bodyT Try.func10 rfl (by rw [Try.ntmps10]; exact Nat.le_of_ble_eq_true rfl) ?_
  refine LH.wk (Wk.eq (el := [(0, .ptr 7 0), (1, .I p1), (2, .I p2)]) (ml := [(7, .box [.L p0.L, .I p0.At])]) rfl rfl rfl rfl) ?_
  refine LH.seqT [(0, .ptr 7 0), (1, .I p1), (2, .I p2)] [(7, .box [.L p0.L, .I p0.At])] rfl ?_ ?_
  ·refine sAn rfl ?_
   exact s0 (Wk.eq rfl rfl rfl rfl)
  refine LH.seqT [(0, .ptr 7 0), (1, .I p1), (2, .I p2), (7, .nil)] [(7, .box [.L p0.L, .I p0.At])] rfl ?_ ?_
  ·refine sAn rfl ?_
   exact s0 (Wk.eq rfl rfl rfl rfl)
  refine LH.seqT [(0, .ptr 7 0), (1, .I p1), (2, .I p2), (7, .nil), (8, .arr 114 (List.length [(-1), (-1), (-1)]))] [(7, .box [.L p0.L, .I p0.At]), (114, .arr 3 1 (List.map LV.I [(-1), (-1), (-1)]))] rfl ?_ ?_
  ·refine sX (ok_bsA (g := LV.I) (ys := [(-1), (-1), (-1)]) (id := 114) te22 tr3 ts3 rfl rfl rfl okI rfl) ?_
   refine sAa rfl ?_
   exact s0 (Wk.eq rfl rfl rfl rfl)
  refine LH.seqT [(0, .ptr 7 0), (1, .I p1), (2, .I p2), (7, .nil), (8, .arr 114 (List.length [(-1), (-1), (-1)])), (9, .arr 115 (List.length [0, 0, 0]))] [(7, .box [.L p0.L, .I p0.At]), (114, .arr 3 1 (List.map LV.I [(-1), (-1), (-1)])), (115, .arr 3 1 (List.map LV.I [0, 0, 0]))] rfl ?_ ?_
  ·refine sX (ok_bsA (g := LV.I) (ys := [0, 0, 0]) (id := 115) te22 tr3 ts3 rfl rfl rfl okI rfl) ?_
   refine sAa rfl ?_
   exact s0 (Wk.eq rfl rfl rfl rfl)
  refine LH.seq ?_
  obtain ⟨r1, hr1, h⟩ := bindS h
  refine LH.seqT [(0, .ptr 7 0), (2, .I p2), (7, .nil), (8, .arr 114 (List.length [(-1), (-1), (-1)])), (9, .arr 115 (List.length [0, 0, 0])), (10, .I r1.1)] [(7, .box [.L r1.2.L, .I r1.2.At]), (114, .arr 3 1 (List.map LV.I [(-1), (-1), (-1)])), (115, .arr 3 1 (List.map LV.I [0, 0, 0]))] rfl ?_ ?_
  ·refine sMp rfl ?_
   refine sMi rfl ?_
   refine sN (oCM (args := [.ptr 7 0, .I 0, .I p1]) (ml := [(7, .box [.L p0.L, .I p0.At])]) (ml' := [(7, .box [.L r1.2.L, .I r1.2.At])]) rfl isF27 rfl (sbR (sbR (sbR sbN))) (GTape_Range_ok hr1) (mC rfl mN) (newI rfl newN) rfl ?_)
   refine sAi rfl ?_
   exact s0 (Wk.eq rfl rfl rfl rfl)
  refine LH.block ?_
  refine LH.wk ((Wk.trans (Wk.eq (el := [(0, .ptr 7 0), (2, .I p2), (7, .nil), (8, .arr 114 (List.length [(-1), (-1), (-1)])), (9, .arr 115 (List.length [0, 0, 0])), (10, .I r1.1)]) (ml := [(7, .box [.L r1.2.L, .I r1.2.At]), (114, .arr 3 1 (List.map LV.I [(-1), (-1), (-1)])), (115, .arr 3 1 (List.map LV.I [0, 0, 0]))]) rfl rfl rfl rfl) (Wk.trans (Wk.eq (el := [(0, .ptr 7 0), (2, .I p2), (7, .nil), (8, .arr 114 (List.length [(-1), (-1), (-1)])), (9, .arr 115 (List.length [0, 0, 0])), (10, .I r1.1)]) (ml := [(7, .box [.L r1.2.L, .I r1.2.At]), (114, .arr 3 1 (List.map LV.I [(-1), (-1), (-1)])), (115, .arr 3 1 (List.map LV.I [0, 0, 0]))]) rfl rfl rfl rfl) (Wk.trans (Wk.ownL (el' := [(0, .ptr 7 0), (2, .I p2), (7, .arr 282 (List.length ([] : List GBagEvent))), (8, .arr 114 (List.length [(-1), (-1), (-1)])), (9, .arr 115 (List.length [0, 0, 0])), (10, .I r1.1)]) 282 34 9 rfl rfl (wK (wK (wO (wK (wK (wK wN))))))) (Wk.eq (el := [(0, .ptr 7 0), (2, .I p2), (7, .arr 282 (List.length ([] : List GBagEvent))), (8, .arr 114 (List.length [(-1), (-1), (-1)])), (9, .arr 115 (List.length [0, 0, 0])), (10, .I r1.1)]) (ml := [(7, .box [.L r1.2.L, .I r1.2.At]), (114, .arr 3 1 (List.map LV.I [(-1), (-1), (-1)])), (115, .arr 3 1 (List.map LV.I [0, 0, 0])), (282, .arr 34 9 (List.map GBagEvent.lv ([] : List GBagEvent)))]) rfl rfl rfl rfl))))) ?_
  refine LH.loop (fun n e m => ∃ (n2 : Int) (l3 : List Int) (n4 : Int) (l5 : List Int) (l6 : List Int) (l7 : List GBagEvent), GTape_BagEvents_L1 F p2 n n2 l3 n4 l5 l6 l7 = some r ∧ e = Env.of [(0, .ptr 7 0), (2, .I p2), (7, .arr 282 (List.length l7)), (8, .arr 114 (List.length l5)), (9, .arr 115 (List.length l6)), (10, .I n2)] ∧ m = Mem.of [(7, .box [.L l3, .I n4]), (114, .arr 3 1 (List.map LV.I l5)), (115, .arr 3 1 (List.map LV.I l6)), (282, .arr 34 9 (List.map GBagEvent.lv l7))]) F ⟨r1.1, r1.2.L, r1.2.At, [(-1), (-1), (-1)], [0, 0, 0], ([] : List GBagEvent), h, rfl, rfl⟩ ?_
  clear h
  rintro n e m ⟨n2, l3, n4, l5, l6, l7, h, rfl, rfl⟩
  rcases n with _ | n
  · cases (show Option.none = some _ from h)
  obtain ⟨rec1, hrec1⟩ : ∃ f, f = GTape_BagEvents_L1 F p2 n := ⟨_, rfl⟩
  replace h : GTape_BagEvents_L1_B F p2 rec1 n2 l3 n4 l5 l6 l7 = some r := hrec1 ▸ h
  unfold GTape_BagEvents_L1_B at h
  refine LH.seq ?_
  refine LH.seqT [(0, .ptr 7 0), (2, .I p2), (7, .arr 282 (List.length l7)), (8, .arr 114 (List.length l5)), (9, .arr 115 (List.length l6)), (10, .I n2), (20, .bool (decide (n2 > 0)))] [(7, .box [.L l3, .I n4]), (114, .arr 3 1 (List.map LV.I l5)), (115, .arr 3 1 (List.map LV.I l6)), (282, .arr 34 9 (List.map GBagEvent.lv l7))] rfl ?_ ?_
  ·refine sMi rfl ?_
   refine sN (oGt rfl rfl ?_)
   exact s0 (Wk.eq rfl rfl rfl rfl)
  refine LH.cond (t := (decide (n2 > 0))) rfl (fun hc8 => ?_) (fun hc8 => ?_)
  ·replace h := iteT h hc8
   refine LH.skip ?_
   refine thenN ?_
   refine LH.wk (Wk.eq (el := [(0, .ptr 7 0), (2, .I p2), (7, .arr 282 (List.length l7)), (8, .arr 114 (List.length l5)), (9, .arr 115 (List.length l6)), (10, .I n2)]) (ml := [(7, .box [.L l3, .I n4]), (114, .arr 3 1 (List.map LV.I l5)), (115, .arr 3 1 (List.map LV.I l6)), (282, .arr 34 9 (List.map GBagEvent.lv l7))]) rfl rfl rfl rfl) ?_
   refine LH.seq ?_
   refine LH.block ?_
   obtain ⟨r9, hr9, h⟩ := bindS h
   refine LH.seqT [(0, .ptr 7 0), (2, .I p2), (7, .arr 282 (List.length l7)), (8, .arr 114 (List.length l5)), (9, .arr 115 (List.length l6)), (10, .I n2), (11, .I r9.1)] [(7, .box [.L r9.2.L, .I r9.2.At]), (114, .arr 3 1 (List.map LV.I l5)), (115, .arr 3 1 (List.map LV.I l6)), (282, .arr 34 9 (List.map GBagEvent.lv l7))] rfl ?_ ?_
   ·refine sMp rfl ?_
    refine sN (oCM (args := [.ptr 7 0, .I 3]) (ml := [(7, .box [.L l3, .I n4])]) (ml' := [(7, .box [.L r9.2.L, .I r9.2.At])]) rfl isF14 rfl (sbR (sbR sbN)) (GTape_Next_ok hr9) (mC rfl mN) (newI rfl newN) rfl ?_)
    refine sAi rfl ?_
    exact s0 (Wk.eq rfl rfl rfl rfl)
   obtain ⟨r10, hr10, h⟩ := bindS h
   obtain ⟨r11, hr11, h⟩ := bindS h
   obtain ⟨x12, hx12, h⟩ := bindS h
   obtain ⟨x13, hx13, h⟩ := bindS h
   obtain ⟨r14, hr14, h⟩ := bindS h
   refine LH.seqJM mixed [] [0, 1282, 0, 100007, 0, 1282, 0, 0, 0, 100007, 0, 0, 0, 1115, 1115, 0, 0, 1114, 1114, 0, 0, 100007, 0, 2, 100112] [(0, .ptr 7 0), (2, .I p2), (7, .arr 282 (List.length l7)), (8, .arr 114 (List.length l5)), (9, .arr 115 (List.length l6)), (10, .I n2), (11, .I r9.1), (12, .ptr 112 0)] [(7, .box [.L r14.2.L, .I r14.2.At]), (112, .box [.I (l7.length : Int), .I r10.1, .I (l7.length : Int), .I r11.1, .I r9.1, .I x12, .I x13, .I r14.1, .nil]), (114, .arr 3 1 (List.map LV.I l5)), (115, .arr 3 1 (List.map LV.I l6)), (282, .arr 34 9 (List.map GBagEvent.lv l7))] rfl rfl (by kernel_rfl) ?_ ?_
   ·refine mN0 (oM (v := (.arr _ _)) rfl ⟨rfl, ?_⟩)
    refine mD rfl rfl rfl (fun m0 hm0 K0 hK0 => oLnA (f := GBagEvent.lv) te25 rfl hm0 hK0) ?_
    refine mN0 (oM (v := (.ptr _ _)) rfl ⟨rfl, ?_⟩)
    refine mW rfl rfl rfl (fun m0 hm0 K0 hK0 => oCM (args := [.ptr 7 0, .I 2]) (ml := [(7, .box [.L r9.2.L, .I r9.2.At])]) (ml' := [(7, .box [.L r10.2.L, .I r10.2.At])]) rfl isF14 rfl (sbR (sbR sbN)) (GTape_Next_ok hr10) (mC hm0 mN) (newI rfl newN) rfl hK0) ?_
    refine mN0 (oM (v := (.arr _ _)) rfl ⟨rfl, ?_⟩)
    refine mD rfl rfl rfl (fun m0 hm0 K0 hK0 => oLnA (f := GBagEvent.lv) te25 rfl hm0 hK0) ?_
    refine mN0 (oBd (vs := [(0, .I (l7.length : Int)), (1, .I r10.1), (2, .I (l7.length : Int))]) tu32 tz32 rfl (lf tf32_0 ts3 tk3 rfl rfl rfl (lf tf32_1 ts3 tk3 rfl rfl rfl (lf tf32_2 ts3 tk3 rfl rfl rfl lf0))) ⟨rfl, ?_⟩)
    refine mN0 (oM (v := (.ptr _ _)) rfl ⟨rfl, ?_⟩)
    refine mN0 (oBS (f := LV.I) (ys := [2, 2, 3, 4]) te22 tr3 ts3 rfl rfl rfl okI ⟨rfl, ?_⟩)
    refine mW rfl rfl rfl (fun m0 hm0 K0 hK0 => oCM (args := [.ptr 7 0, .L [2, 2, 3, 4]]) (ml := [(7, .box [.L r10.2.L, .I r10.2.At])]) (ml' := [(7, .box [.L r11.2.L, .I r11.2.At])]) rfl isF28 rfl (sbR (sbR sbN)) (GTape_Pick_ok hr11) (mC hm0 mN) (newI rfl newN) rfl hK0) ?_
    refine mN0 (oM (v := (.int _ _)) rfl ⟨rfl, ?_⟩)
    refine mN0 (oM (v := (.arr _ _)) rfl ⟨rfl, ?_⟩)
    refine mN0 (oM (v := (.int _ _)) rfl ⟨rfl, ?_⟩)
    refine mD rfl rfl rfl (fun m0 hm0 K0 hK0 => oIxA (f := LV.I) te22 tk3 ts3 rfl hm0 rfl hx12 hK0) ?_
    refine mD rfl rfl rfl (fun m0 hm0 K0 hK0 => oLdE (f := LV.I) rfl hm0 (idxOk hx12).2 rfl rfl rfl tk3 ta3 hK0) ?_
    refine mN0 (oM (v := (.arr _ _)) rfl ⟨rfl, ?_⟩)
    refine mN0 (oM (v := (.int _ _)) rfl ⟨rfl, ?_⟩)
    refine mD rfl rfl rfl (fun m0 hm0 K0 hK0 => oIxA (f := LV.I) te22 tk3 ts3 rfl hm0 rfl hx13 hK0) ?_
    refine mD rfl rfl rfl (fun m0 hm0 K0 hK0 => oLdE (f := LV.I) rfl hm0 (idxOk hx13).2 rfl rfl rfl tk3 ta3 hK0) ?_
    refine mN0 (oM (v := (.ptr _ _)) rfl ⟨rfl, ?_⟩)
    refine mN0 (oBS (f := LV.I) (ys := [0, 0, 1, 2]) te22 tr3 ts3 rfl rfl rfl okI ⟨rfl, ?_⟩)
    refine mW rfl rfl rfl (fun m0 hm0 K0 hK0 => oCM (args := [.ptr 7 0, .L [0, 0, 1, 2]]) (ml := [(7, .box [.L r11.2.L, .I r11.2.At])]) (ml' := [(7, .box [.L r14.2.L, .I r14.2.At])]) rfl isF28 rfl (sbR (sbR sbN)) (GTape_Pick_ok hr14) (mC hm0 mN) (newI rfl newN) rfl hK0) ?_
    refine mN0 (oBd (vs := [(0, .agg [.I (l7.length : Int), .I r10.1, .I (l7.length : Int)]), (1, .I r11.1), (2, .I r9.1), (3, .I x12), (4, .I x13), (5, .I r14.1)]) tu34 tz34 rfl (lf tf34_0 ts32 tk32 rfl rfl rfl (lf tf34_1 ts3 tk3 rfl rfl rfl (lf tf34_2 ts3 tk3 rfl rfl rfl (lf tf34_3 ts3 tk3 rfl rfl rfl (lf tf34_4 ts3 tk3 rfl rfl rfl (lf tf34_5 ts3 tk3 rfl rfl rfl lf0)))))) ⟨rfl, ?_⟩)
    refine mN2 (oAl (id := 112) rfl tz34 rfl rfl ?_)
    refine mS rfl rfl rfl (fun m0 hm0 K0 hK0 => oSt rfl rfl rfl tk34 ts34 hm0 rfl rfl hK0) ?_
    exact m0 (Wk.eq rfl rfl rfl rfl)
   refine LH.mid (fun e m => ∃ (l15 : List Int) (n16 : Int) (n17 : Int) (n18 : Int) (n19 : Int) (n20 : Int) (l21 : List Int) (l22 : List Int) (l23 : List Int), GTape_BagEvents_J2 rec1 p2 n2 l7 r9 r10 l15 n16 n17 n18 n19 n20 l21 l22 l23 = some r ∧ Wk (fun id => Mem.of [(7, .box [.L p0.L, .I p0.At])] id ≠ .none) e m (Env.of [(0, .ptr 7 0), (2, .I p2), (7, .arr 282 (List.length l7)), (8, .arr 114 (List.length l21)), (9, .arr 115 (List.length l22)), (10, .I n2), (12, .ptr 112 0)]) (Mem.of [(7, .box [.L l15, .I n16]), (112, .box [.I (l7.length : Int), .I r10.1, .I (l7.length : Int), .I n17, .I r9.1, .I n18, .I n19, .I n20, .arr 181 (List.length l23)]), (114, .arr 3 1 (List.map LV.I l21)), (115, .arr 3 1 (List.map LV.I l22)), (181, .arr 3 1 (List.map LV.I l23)), (282, .arr 34 9 (List.map GBagEvent.lv l7))])) ?_ ?_
   ·obtain ⟨x65, hx65, h⟩ := bindS h
    refine LH.seqT [(0, .ptr 7 0), (2, .I p2), (7, .arr 282 (List.length l7)), (8, .arr 114 (List.length l5)), (9, .arr 115 (List.length l6)), (10, .I n2), (11, .I r9.1), (12, .ptr 112 0), (52, .bool (decide (x65 < 0)))] [(7, .box [.L r14.2.L, .I r14.2.At]), (112, .box [.I (l7.length : Int), .I r10.1, .I (l7.length : Int), .I r11.1, .I r9.1, .I x12, .I x13, .I r14.1, .nil]), (114, .arr 3 1 (List.map LV.I l5)), (115, .arr 3 1 (List.map LV.I l6)), (282, .arr 34 9 (List.map GBagEvent.lv l7))] rfl ?_ ?_
    ·refine sMa rfl ?_
     refine sMi rfl ?_
     refine sN (oIxA (f := LV.I) te22 tk3 ts3 rfl rfl rfl hx65 ?_)
     refine sN (oLdE (f := LV.I) rfl rfl (idxOk hx65).2 rfl rfl rfl tk3 ta3 ?_)
     refine sN (oLt rfl rfl ?_)
     exact s0 (Wk.eq rfl rfl rfl rfl)
    refine LH.cond (t := (decide (x65 < 0))) rfl (fun hc66 => ?_) (fun hc66 => ?_)
    ·replace h := iteT h hc66
     obtain ⟨r67, hr67, h⟩ := bindS h
     obtain ⟨r68, hr68, h⟩ := bindS h
     refine LH.seqT [(0, .ptr 7 0), (2, .I p2), (7, .arr 282 (List.length l7)), (8, .arr 114 (List.length l5)), (9, .arr 115 (List.length l6)), (10, .I n2), (11, .I r9.1), (12, .ptr 112 0)] [(7, .box [.L r68.2.L, .I r68.2.At]), (112, .box [.I (l7.length : Int), .I r10.1, .I (l7.length : Int), .I 1, .I r9.1, .I (i64 ((i64 (10 * r9.1)) + r68.1)), .I r67.1, .I 0, .nil]), (114, .arr 3 1 (List.map LV.I l5)), (115, .arr 3 1 (List.map LV.I l6)), (282, .arr 34 9 (List.map GBagEvent.lv l7))] rfl ?_ ?_
     ·refine sMp rfl ?_
      refine sN (oCM (args := [.ptr 7 0, .I 1, .I 3]) (ml := [(7, .box [.L r14.2.L, .I r14.2.At])]) (ml' := [(7, .box [.L r67.2.L, .I r67.2.At])]) rfl isF27 rfl (sbR (sbR (sbR sbN))) (GTape_Range_ok hr67) (mC rfl mN) (newI rfl newN) rfl ?_)
      refine sMi rfl ?_
      refine sN (oMul rfl rfl ?_)
      refine sMp rfl ?_
      refine sN (oCM (args := [.ptr 7 0, .I 4]) (ml := [(7, .box [.L r67.2.L, .I r67.2.At])]) (ml' := [(7, .box [.L r68.2.L, .I r68.2.At])]) rfl isF14 rfl (sbR (sbR sbN)) (GTape_Next_ok hr68) (mC rfl mN) (newI rfl newN) rfl ?_)
      refine sN (oAdd rfl rfl ?_)
      refine sN (oFa tf34_1 tk3 ts3 rfl rfl ?_)
      refine s_ (oSt rfl rfl rfl tk3 ts3 rfl rfl rfl ?_)
      refine sN (oFa tf34_4 tk3 ts3 rfl rfl ?_)
      refine s_ (oSt rfl rfl rfl tk3 ts3 rfl rfl rfl ?_)
      refine sN (oFa tf34_3 tk3 ts3 rfl rfl ?_)
      refine s_ (oSt rfl rfl rfl tk3 ts3 rfl rfl rfl ?_)
      refine sN (oFa tf34_5 tk3 ts3 rfl rfl ?_)
      refine s_ (oSt rfl rfl rfl tk3 ts3 rfl rfl rfl ?_)
      exact s0 (Wk.eq rfl rfl rfl rfl)
     refine LH.seq ?_
     refine LH.seqT [(0, .ptr 7 0), (2, .I p2), (7, .arr 282 (List.length l7)), (8, .arr 114 (List.length l5)), (9, .arr 115 (List.length l6)), (10, .I n2), (11, .I r9.1), (12, .ptr 112 0), (13, .I 0)] [(7, .box [.L r68.2.L, .I r68.2.At]), (112, .box [.I (l7.length : Int), .I r10.1, .I (l7.length : Int), .I 1, .I r9.1, .I (i64 ((i64 (10 * r9.1)) + r68.1)), .I r67.1, .I 0, .nil]), (114, .arr 3 1 (List.map LV.I l5)), (115, .arr 3 1 (List.map LV.I l6)), (282, .arr 34 9 (List.map GBagEvent.lv l7))] rfl ?_ ?_
     ·refine sAi rfl ?_
      exact s0 (Wk.eq rfl rfl rfl rfl)
     refine LH.block ?_
     refine LH.wk ((Wk.trans (Wk.eq (el := [(0, .ptr 7 0), (2, .I p2), (7, .arr 282 (List.length l7)), (8, .arr 114 (List.length l5)), (9, .arr 115 (List.length l6)), (10, .I n2), (11, .I r9.1), (12, .ptr 112 0), (13, .I 0)]) (ml := [(7, .box [.L r68.2.L, .I r68.2.At]), (112, .box [.I (l7.length : Int), .I r10.1, .I (l7.length : Int), .I 1, .I r9.1, .I (i64 ((i64 (10 * r9.1)) + r68.1)), .I r67.1, .I 0, .nil]), (114, .arr 3 1 (List.map LV.I l5)), (115, .arr 3 1 (List.map LV.I l6)), (282, .arr 34 9 (List.map GBagEvent.lv l7))]) rfl rfl rfl rfl) (Wk.trans (Wk.eq (el := [(0, .ptr 7 0), (2, .I p2), (7, .arr 282 (List.length l7)), (8, .arr 114 (List.length l5)), (9, .arr 115 (List.length l6)), (10, .I n2), (11, .I r9.1), (12, .ptr 112 0), (13, .I 0)]) (ml := [(7, .box [.L r68.2.L, .I r68.2.At]), (112, .box [.I (l7.length : Int), .I r10.1, .I (l7.length : Int), .I 1, .I r9.1, .I (i64 ((i64 (10 * r9.1)) + r68.1)), .I r67.1, .I 0, .nil]), (114, .arr 3 1 (List.map LV.I l5)), (115, .arr 3 1 (List.map LV.I l6)), (282, .arr 34 9 (List.map GBagEvent.lv l7))]) rfl rfl rfl rfl) (Wk.trans (Wk.ownBx 181 3 1 112 8 rfl rfl rfl rfl rfl (prN rfl)) (Wk.eq (el := [(0, .ptr 7 0), (2, .I p2), (7, .arr 282 (List.length l7)), (8, .arr 114 (List.length l5)), (9, .arr 115 (List.length l6)), (10, .I n2), (11, .I r9.1), (12, .ptr 112 0), (13, .I 0)]) (ml := [(7, .box [.L r68.2.L, .I r68.2.At]), (112, .box [.I (l7.length : Int), .I r10.1, .I (l7.length : Int), .I 1, .I r9.1, .I (i64 ((i64 (10 * r9.1)) + r68.1)), .I r67.1, .I 0, .arr 181 (List.length ([] : List Int))]), (114, .arr 3 1 (List.map LV.I l5)), (115, .arr 3 1 (List.map LV.I l6)), (181, .arr 3 1 (List.map LV.I ([] : List Int))), (282, .arr 34 9 (List.map GBagEvent.lv l7))]) rfl rfl rfl rfl))))) ?_
     refine LH.loop (fun n e m => ∃ (n69 : Int) (l70 : List Int) (n71 : Int) (l72 : List Int), GTape_BagEvents_L5 rec1 p2 n2 l5 l6 l7 r9 r10 r67 r68 n n69 l70 n71 l72 = some r ∧ e = Env.of [(0, .ptr 7 0), (2, .I p2), (7, .arr 282 (List.length l7)), (8, .arr 114 (List.length l5)), (9, .arr 115 (List.length l6)), (10, .I n2), (11, .I r9.1), (12, .ptr 112 0), (13, .I n69)] ∧ m = Mem.of [(7, .box [.L l70, .I n71]), (112, .box [.I (l7.length : Int), .I r10.1, .I (l7.length : Int), .I 1, .I r9.1, .I (i64 ((i64 (10 * r9.1)) + r68.1)), .I r67.1, .I 0, .arr 181 (List.length l72)]), (114, .arr 3 1 (List.map LV.I l5)), (115, .arr 3 1 (List.map LV.I l6)), (181, .arr 3 1 (List.map LV.I l72)), (282, .arr 34 9 (List.map GBagEvent.lv l7))]) F ⟨0, r68.2.L, r68.2.At, ([] : List Int), h, rfl, rfl⟩ ?_
     clear h
     rintro n e m ⟨n69, l70, n71, l72, h, rfl, rfl⟩
     rcases n with _ | n
     · cases (show Option.none = some _ from h)
     obtain ⟨rec5, hrec5⟩ : ∃ f, f = GTape_BagEvents_L5 rec1 p2 n2 l5 l6 l7 r9 r10 r67 r68 n := ⟨_, rfl⟩
     replace h : GTape_BagEvents_L5_B rec1 p2 n2 l5 l6 l7 r9 r10 r67 r68 rec5 n69 l70 n71 l72 = some r := hrec5 ▸ h
     unfold GTape_BagEvents_L5_B at h
     refine LH.seq ?_
     refine LH.seqT [(0, .ptr 7 0), (2, .I p2), (7, .arr 282 (List.length l7)), (8, .arr 114 (List.length l5)), (9, .arr 115 (List.length l6)), (10, .I n2), (11, .I r9.1), (12, .ptr 112 0), (13, .I n69), (65, .bool (decide (n69 < 9)))] [(7, .box [.L l70, .I n71]), (112, .box [.I (l7.length : Int), .I r10.1, .I (l7.length : Int), .I 1, .I r9.1, .I (i64 ((i64 (10 * r9.1)) + r68.1)), .I r67.1, .I 0, .arr 181 (List.length l72)]), (114, .arr 3 1 (List.map LV.I l5)), (115, .arr 3 1 (List.map LV.I l6)), (181, .arr 3 1 (List.map LV.I l72)), (282, .arr 34 9 (List.map GBagEvent.lv l7))] rfl ?_ ?_
     ·refine sMi rfl ?_
      refine sN (oLt rfl rfl ?_)
      exact s0 (Wk.eq rfl rfl rfl rfl)
     refine LH.cond (t := (decide (n69 < 9))) rfl (fun hc73 => ?_) (fun hc73 => ?_)
     ·replace h := iteT h hc73
      refine LH.skip ?_
      refine thenN ?_
      refine LH.wk (Wk.eq (el := [(0, .ptr 7 0), (2, .I p2), (7, .arr 282 (List.length l7)), (8, .arr 114 (List.length l5)), (9, .arr 115 (List.length l6)), (10, .I n2), (11, .I r9.1), (12, .ptr 112 0), (13, .I n69)]) (ml := [(7, .box [.L l70, .I n71]), (112, .box [.I (l7.length : Int), .I r10.1, .I (l7.length : Int), .I 1, .I r9.1, .I (i64 ((i64 (10 * r9.1)) + r68.1)), .I r67.1, .I 0, .arr 181 (List.length l72)]), (114, .arr 3 1 (List.map LV.I l5)), (115, .arr 3 1 (List.map LV.I l6)), (181, .arr 3 1 (List.map LV.I l72)), (282, .arr 34 9 (List.map GBagEvent.lv l7))]) rfl rfl rfl rfl) ?_
      refine LH.seq ?_
      refine LH.block ?_
      obtain ⟨w77, hv, h⟩ := bindS h
      refine LH.seqT [(0, .ptr 7 0), (2, .I p2), (7, .arr 282 (List.length l7)), (8, .arr 114 (List.length l5)), (9, .arr 115 (List.length l6)), (10, .I n2), (11, .I r9.1), (12, .ptr 112 0), (13, .I n69), (76, .bool w77.1)] [(7, .box [.L w77.2.1, .I w77.2.2]), (112, .box [.I (l7.length : Int), .I r10.1, .I (l7.length : Int), .I 1, .I r9.1, .I (i64 ((i64 (10 * r9.1)) + r68.1)), .I r67.1, .I 0, .arr 181 (List.length l72)]), (114, .arr 3 1 (List.map LV.I l5)), (115, .arr 3 1 (List.map LV.I l6)), (181, .arr 3 1 (List.map LV.I l72)), (282, .arr 34 9 (List.map GBagEvent.lv l7))] rfl ?_ ?_
      ·refine sMi rfl ?_
       obtain ⟨r78, hr78, hv⟩ := bindS hv
       refine sN (oCP (args := [.I n69, .I 3]) rfl isF23 rfl (sbR (sbR sbN)) (make_Cut_ok hr78) rfl ?_)
       refine sMi rfl ?_
       refine sN (oEq rfl rfl ?_)
       refine sMb rfl ?_
       by_cases hb79 : (r78 == r9.1) = true
       ·replace hv := iteT hv hb79
        refine sT rfl (congrArg LV.bool hb79) (oM (v := (.ptr _ _)) rfl ?_)
        obtain ⟨r80, hr80, hv⟩ := bindS hv
        refine sT rfl (congrArg LV.bool hb79) (oCM (args := [.ptr 7 0, .I 3]) (ml := [(7, .box [.L l70, .I n71])]) (ml' := [(7, .box [.L r80.2.L, .I r80.2.At])]) rfl isF14 rfl (sbR (sbR sbN)) (GTape_Next_ok hr80) (mC rfl mN) (newI rfl newN) rfl ?_)
        refine sT rfl (congrArg LV.bool hb79) (oGt rfl rfl ?_)
        refine sN (oPkT (congrArg LV.bool hb79) (v := (.bool _)) rfl ?_)
        obtain rfl := Option.some.inj hv
        exact s0 (Wk.eq rfl rfl rfl rfl)
       ·replace hb79 := bF hb79
        replace hv := iteF hv hb79
        refine sF rfl rfl hb79 ?_
        refine sF rfl rfl hb79 ?_
        refine sF rfl rfl hb79 ?_
        refine sN (oPkF (congrArg LV.bool hb79) (v := (.bool _)) rfl ?_)
        obtain rfl := Option.some.inj hv
        exact s0 (Wk.eq rfl rfl rfl rfl)
      clear hv
      refine LH.cond (t := w77.1) rfl (fun hc81 => ?_) (fun hc81 => ?_)
      ·replace h := iteT h hc81
       obtain ⟨v82, hv82, h⟩ := bindS h
       refine LH.loneT [(0, .ptr 7 0), (2, .I p2), (7, .arr 282 (List.length l7)), (8, .arr 114 (List.length l5)), (9, .arr 115 (List.length l6)), (10, .I n2), (11, .I r9.1), (12, .ptr 112 0), (13, .I n69)] [(7, .box [.L w77.2.1, .I w77.2.2]), (112, .box [.I (l7.length : Int), .I r10.1, .I (l7.length : Int), .I 1, .I r9.1, .I (i64 ((i64 (10 * r9.1)) + r68.1)), .I r67.1, .I 0, .arr 181 (List.length v82)]), (114, .arr 3 1 (List.map LV.I l5)), (115, .arr 3 1 (List.map LV.I l6)), (181, .arr 3 1 (List.map LV.I v82)), (282, .arr 34 9 (List.map GBagEvent.lv l7))] rfl ?_ ?_
       ·refine sN (oFa tf34_6 tk22 ts22 rfl rfl ?_)
        refine sN (oLdP rfl rfl rfl rfl tk22 ta22 ?_)
        refine sMi rfl ?_
        refine sN (oBS (f := LV.I) (ys := [n69]) te22 tr3 ts3 rfl rfl rfl okI ?_)
        refine sN (oAp (f := LV.I) te22 tr3 ts3 rfl rfl (prN rfl) rfl hv82 ?_)
        refine sN (oFa tf34_6 tk22 ts22 rfl rfl ?_)
        refine s_ (oSt rfl rfl rfl tk22 ts22 rfl rfl rfl ?_)
        exact s0 (Wk.eq rfl rfl rfl rfl)
       refine blockN ?_
       refine thenN ?_
       refine LH.loneT [(0, .ptr 7 0), (2, .I p2), (7, .arr 282 (List.length l7)), (8, .arr 114 (List.length l5)), (9, .arr 115 (List.length l6)), (10, .I n2), (11, .I r9.1), (12, .ptr 112 0), (13, .I (i64 (n69 + 1)))] [(7, .box [.L w77.2.1, .I w77.2.2]), (112, .box [.I (l7.length : Int), .I r10.1, .I (l7.length : Int), .I 1, .I r9.1, .I (i64 ((i64 (10 * r9.1)) + r68.1)), .I r67.1, .I 0, .arr 181 (List.length v82)]), (114, .arr 3 1 (List.map LV.I l5)), (115, .arr 3 1 (List.map LV.I l6)), (181, .arr 3 1 (List.map LV.I v82)), (282, .arr 34 9 (List.map GBagEvent.lv l7))] rfl ?_ ?_
       ·refine sMi rfl ?_
        refine sN (oAdd rfl rfl ?_)
        refine sAi rfl ?_
        exact s0 (Wk.eq rfl rfl rfl rfl)
       exact roundI ⟨(i64 (n69 + 1)), w77.2.1, w77.2.2, v82, hrec5 ▸ h, rfl, rfl⟩ (Wk.eq rfl rfl rfl rfl)
      replace h := iteF h hc81
      refine LH.skip ?_
      refine blockN ?_
      refine thenN ?_
      refine LH.loneT [(0, .ptr 7 0), (2, .I p2), (7, .arr 282 (List.length l7)), (8, .arr 114 (List.length l5)), (9, .arr 115 (List.length l6)), (10, .I n2), (11, .I r9.1), (12, .ptr 112 0), (13, .I (i64 (n69 + 1)))] [(7, .box [.L w77.2.1, .I w77.2.2]), (112, .box [.I (l7.length : Int), .I r10.1, .I (l7.length : Int), .I 1, .I r9.1, .I (i64 ((i64 (10 * r9.1)) + r68.1)), .I r67.1, .I 0, .arr 181 (List.length l72)]), (114, .arr 3 1 (List.map LV.I l5)), (115, .arr 3 1 (List.map LV.I l6)), (181, .arr 3 1 (List.map LV.I l72)), (282, .arr 34 9 (List.map GBagEvent.lv l7))] rfl ?_ ?_
      ·refine sMi rfl ?_
       refine sN (oAdd rfl rfl ?_)
       refine sAi rfl ?_
       exact s0 (Wk.eq rfl rfl rfl rfl)
      exact roundI ⟨(i64 (n69 + 1)), w77.2.1, w77.2.2, l72, hrec5 ▸ h, rfl, rfl⟩ (Wk.eq rfl rfl rfl rfl)
     replace h := iteF h hc73
     refine LH.exit ?_
     refine thenX ?_
     refine roundX ?_
     refine blockH ?_
     refine thenN ?_
     obtain ⟨x83, hx83, h⟩ := bindS h
     obtain ⟨x84, hx84, h⟩ := bindS h
     refine LH.loneTM mixed [] [0, 0, 0, 0, 0, 1112, 0, 1112, 1114, 100114, 1115, 100115] [(0, .ptr 7 0), (2, .I p2), (7, .arr 282 (List.length l7)), (8, .arr 114 (List.length (l5.set r9.1.toNat r67.1))), (9, .arr 115 (List.length (l6.set r9.1.toNat (i64 ((i64 (10 * r9.1)) + r68.1))))), (10, .I n2), (12, .ptr 112 0)] [(7, .box [.L l70, .I n71]), (112, .box [.I (l7.length : Int), .I r10.1, .I (l7.length : Int), .I 1, .I r9.1, .I (i64 ((i64 (10 * r9.1)) + r68.1)), .I r67.1, .I 0, .arr 181 (List.length l72)]), (114, .arr 3 1 (List.map LV.I (l5.set r9.1.toNat r67.1))), (115, .arr 3 1 (List.map LV.I (l6.set r9.1.toNat (i64 ((i64 (10 * r9.1)) + r68.1))))), (181, .arr 3 1 (List.map LV.I l72)), (282, .arr 34 9 (List.map GBagEvent.lv l7))] rfl rfl (by kernel_rfl) ?_ ?_
     ·refine mN0 (oM (v := (.arr _ _)) rfl ⟨rfl, ?_⟩)
      refine mN0 (oM (v := (.int _ _)) rfl ⟨rfl, ?_⟩)
      refine mN0 (oM (v := (.arr _ _)) rfl ⟨rfl, ?_⟩)
      refine mN0 (oM (v := (.int _ _)) rfl ⟨rfl, ?_⟩)
      refine mN0 (oFa tf34_4 tk3 ts3 rfl rfl ⟨rfl, ?_⟩)
      refine mD rfl rfl rfl (fun m0 hm0 K0 hK0 => oLdP rfl hm0 rfl rfl tk3 ta3 hK0) ?_
      refine mN0 (oFa tf34_3 tk3 ts3 rfl rfl ⟨rfl, ?_⟩)
      refine mD rfl rfl rfl (fun m0 hm0 K0 hK0 => oLdP rfl hm0 rfl rfl tk3 ta3 hK0) ?_
      refine mD rfl rfl rfl (fun m0 hm0 K0 hK0 => oIxA (f := LV.I) te22 tk3 ts3 rfl hm0 rfl hx83 hK0) ?_
      refine mS rfl rfl rfl (fun m0 hm0 K0 hK0 => oStE (f := LV.I) (z' := r67.1) rfl rfl rfl rfl tk3 ts3 hm0 (idxOk hx83).2 rfl hK0) ?_
      refine mD rfl rfl rfl (fun m0 hm0 K0 hK0 => oIxA (f := LV.I) te22 tk3 ts3 rfl hm0 rfl hx84 hK0) ?_
      refine mS rfl rfl rfl (fun m0 hm0 K0 hK0 => oStE (f := LV.I) (z' := (i64 ((i64 (10 * r9.1)) + r68.1))) rfl rfl rfl rfl tk3 ts3 hm0 (idxOk hx84).2 rfl hK0) ?_
      exact m0 (Wk.to (eC rfl (eC rfl (eC rfl (eC (congrArg (LV.arr 114) (by simp)) (eC (congrArg (LV.arr 115) (by simp)) (eC rfl (eC rfl eN))))))) ⟨rfl, rfl, rfl, rfl, rfl, rfl, trivial⟩ rfl (prK rfl))
     exact thenN ⟨l70, n71, 1, (i64 ((i64 (10 * r9.1)) + r68.1)), r67.1, 0, (l5.set r9.1.toNat r67.1), (l6.set r9.1.toNat (i64 ((i64 (10 * r9.1)) + r68.1))), l72, h, Wk.eq rfl rfl rfl rfl⟩
    replace h := iteF h hc66
    refine LH.seqT [(0, .ptr 7 0), (2, .I p2), (7, .arr 282 (List.length l7)), (8, .arr 114 (List.length l5)), (9, .arr 115 (List.length l6)), (10, .I n2), (11, .I r9.1), (12, .ptr 112 0), (95, .bool (r11.1 == 2))] [(7, .box [.L r14.2.L, .I r14.2.At]), (112, .box [.I (l7.length : Int), .I r10.1, .I (l7.length : Int), .I r11.1, .I r9.1, .I x12, .I x13, .I r14.1, .nil]), (114, .arr 3 1 (List.map LV.I l5)), (115, .arr 3 1 (List.map LV.I l6)), (282, .arr 34 9 (List.map GBagEvent.lv l7))] rfl ?_ ?_
    ·refine sN (oFa tf34_1 tk3 ts3 rfl rfl ?_)
     refine sN (oLdP rfl rfl rfl rfl tk3 ta3 ?_)
     refine sN (oEq rfl rfl ?_)
     exact s0 (Wk.eq rfl rfl rfl rfl)
    refine LH.cond (t := (r11.1 == 2)) rfl (fun hc85 => ?_) (fun hc85 => ?_)
    ·replace h := iteT h hc85
     obtain ⟨x86, hx86, h⟩ := bindS h
     refine LH.loneT [(0, .ptr 7 0), (2, .I p2), (7, .arr 282 (List.length l7)), (8, .arr 114 (List.length (l5.set r9.1.toNat r14.1))), (9, .arr 115 (List.length l6)), (10, .I n2), (12, .ptr 112 0)] [(7, .box [.L r14.2.L, .I r14.2.At]), (112, .box [.I (l7.length : Int), .I r10.1, .I (l7.length : Int), .I r11.1, .I r9.1, .I x12, .I x13, .I r14.1, .nil]), (114, .arr 3 1 (List.map LV.I (l5.set r9.1.toNat r14.1))), (115, .arr 3 1 (List.map LV.I l6)), (282, .arr 34 9 (List.map GBagEvent.lv l7))] rfl ?_ ?_
     ·refine sMa rfl ?_
      refine sMi rfl ?_
      refine sN (oFa tf34_5 tk3 ts3 rfl rfl ?_)
      refine sN (oLdP rfl rfl rfl rfl tk3 ta3 ?_)
      refine sN (oIxA (f := LV.I) te22 tk3 ts3 rfl rfl rfl hx86 ?_)
      refine s_ (oStE (f := LV.I) (z' := r14.1) rfl rfl rfl rfl tk3 ts3 rfl (idxOk hx86).2 rfl ?_)
      exact s0 (Wk.to (eC rfl (eC rfl (eC rfl (eC (congrArg (LV.arr 114) (by simp)) (eC rfl (eC rfl (eC rfl eN))))))) ⟨rfl, rfl, rfl, rfl, rfl, trivial⟩ rfl (prK rfl))
     exact thenN ⟨r14.2.L, r14.2.At, r11.1, x12, x13, r14.1, (l5.set r9.1.toNat r14.1), l6, ([] : List Int), h, (Wk.trans (Wk.eq (el := [(0, .ptr 7 0), (2, .I p2), (7, .arr 282 (List.length l7)), (8, .arr 114 (List.length (l5.set r9.1.toNat r14.1))), (9, .arr 115 (List.length l6)), (10, .I n2), (12, .ptr 112 0)]) (ml := [(7, .box [.L r14.2.L, .I r14.2.At]), (112, .box [.I (l7.length : Int), .I r10.1, .I (l7.length : Int), .I r11.1, .I r9.1, .I x12, .I x13, .I r14.1, .nil]), (114, .arr 3 1 (List.map LV.I (l5.set r9.1.toNat r14.1))), (115, .arr 3 1 (List.map LV.I l6)), (282, .arr 34 9 (List.map GBagEvent.lv l7))]) rfl rfl rfl rfl) (Wk.trans (Wk.eq (el := [(0, .ptr 7 0), (2, .I p2), (7, .arr 282 (List.length l7)), (8, .arr 114 (List.length (l5.set r9.1.toNat r14.1))), (9, .arr 115 (List.length l6)), (10, .I n2), (12, .ptr 112 0)]) (ml := [(7, .box [.L r14.2.L, .I r14.2.At]), (112, .box [.I (l7.length : Int), .I r10.1, .I (l7.length : Int), .I r11.1, .I r9.1, .I x12, .I x13, .I r14.1, .nil]), (114, .arr 3 1 (List.map LV.I (l5.set r9.1.toNat r14.1))), (115, .arr 3 1 (List.map LV.I l6)), (282, .arr 34 9 (List.map GBagEvent.lv l7))]) rfl rfl rfl rfl) (Wk.trans (Wk.ownBx 181 3 1 112 8 rfl rfl rfl rfl rfl (prN rfl)) (Wk.eq rfl rfl rfl rfl))))⟩
    replace h := iteF h hc85
    refine LH.seqT [(0, .ptr 7 0), (2, .I p2), (7, .arr 282 (List.length l7)), (8, .arr 114 (List.length l5)), (9, .arr 115 (List.length l6)), (10, .I n2), (11, .I r9.1), (12, .ptr 112 0), (103, .bool (r11.1 == 4))] [(7, .box [.L r14.2.L, .I r14.2.At]), (112, .box [.I (l7.length : Int), .I r10.1, .I (l7.length : Int), .I r11.1, .I r9.1, .I x12, .I x13, .I r14.1, .nil]), (114, .arr 3 1 (List.map LV.I l5)), (115, .arr 3 1 (List.map LV.I l6)), (282, .arr 34 9 (List.map GBagEvent.lv l7))] rfl ?_ ?_
    ·refine sN (oFa tf34_1 tk3 ts3 rfl rfl ?_)
     refine sN (oLdP rfl rfl rfl rfl tk3 ta3 ?_)
     refine sN (oEq rfl rfl ?_)
     exact s0 (Wk.eq rfl rfl rfl rfl)
    refine LH.cond (t := (r11.1 == 4)) rfl (fun hc87 => ?_) (fun hc87 => ?_)
    ·replace h := iteT h hc87
     obtain ⟨r88, hr88, h⟩ := bindS h
     refine LH.seqT [(0, .ptr 7 0), (2, .I p2), (7, .arr 282 (List.length l7)), (8, .arr 114 (List.length l5)), (9, .arr 115 (List.length l6)), (10, .I n2), (11, .I r9.1), (12, .ptr 112 0)] [(7, .box [.L r88.2.L, .I r88.2.At]), (112, .box [.I (l7.length : Int), .I r10.1, .I (l7.length : Int), .I r11.1, .I r9.1, .I (i64 (100 + r88.1)), .I x13, .I r14.1, .nil]), (114, .arr 3 1 (List.map LV.I l5)), (115, .arr 3 1 (List.map LV.I l6)), (282, .arr 34 9 (List.map GBagEvent.lv l7))] rfl ?_ ?_
     ·refine sMp rfl ?_
      refine sN (oCM (args := [.ptr 7 0, .I 40]) (ml := [(7, .box [.L r14.2.L, .I r14.2.At])]) (ml' := [(7, .box [.L r88.2.L, .I r88.2.At])]) rfl isF14 rfl (sbR (sbR sbN)) (GTape_Next_ok hr88) (mC rfl mN) (newI rfl newN) rfl ?_)
      refine sN (oAdd rfl rfl ?_)
      refine sN (oFa tf34_3 tk3 ts3 rfl rfl ?_)
      refine s_ (oSt rfl rfl rfl tk3 ts3 rfl rfl rfl ?_)
      exact s0 (Wk.eq rfl rfl rfl rfl)
     obtain ⟨x89, hx89, h⟩ := bindS h
     refine LH.loneT [(0, .ptr 7 0), (2, .I p2), (7, .arr 282 (List.length l7)), (8, .arr 114 (List.length l5)), (9, .arr 115 (List.length (l6.set r9.1.toNat (i64 (100 + r88.1))))), (10, .I n2), (12, .ptr 112 0)] [(7, .box [.L r88.2.L, .I r88.2.At]), (112, .box [.I (l7.length : Int), .I r10.1, .I (l7.length : Int), .I r11.1, .I r9.1, .I (i64 (100 + r88.1)), .I x13, .I r14.1, .nil]), (114, .arr 3 1 (List.map LV.I l5)), (115, .arr 3 1 (List.map LV.I (l6.set r9.1.toNat (i64 (100 + r88.1))))), (282, .arr 34 9 (List.map GBagEvent.lv l7))] rfl ?_ ?_
     ·refine sMa rfl ?_
      refine sMi rfl ?_
      refine sN (oFa tf34_3 tk3 ts3 rfl rfl ?_)
      refine sN (oLdP rfl rfl rfl rfl tk3 ta3 ?_)
      refine sN (oIxA (f := LV.I) te22 tk3 ts3 rfl rfl rfl hx89 ?_)
      refine s_ (oStE (f := LV.I) (z' := (i64 (100 + r88.1))) rfl rfl rfl rfl tk3 ts3 rfl (idxOk hx89).2 rfl ?_)
      exact s0 (Wk.to (eC rfl (eC rfl (eC rfl (eC rfl (eC (congrArg (LV.arr 115) (by simp)) (eC rfl (eC rfl eN))))))) ⟨rfl, rfl, rfl, rfl, rfl, trivial⟩ rfl (prK rfl))
     exact thenN ⟨r88.2.L, r88.2.At, r11.1, (i64 (100 + r88.1)), x13, r14.1, l5, (l6.set r9.1.toNat (i64 (100 + r88.1))), ([] : List Int), h, (Wk.trans (Wk.eq (el := [(0, .ptr 7 0), (2, .I p2), (7, .arr 282 (List.length l7)), (8, .arr 114 (List.length l5)), (9, .arr 115 (List.length (l6.set r9.1.toNat (i64 (100 + r88.1))))), (10, .I n2), (12, .ptr 112 0)]) (ml := [(7, .box [.L r88.2.L, .I r88.2.At]), (112, .box [.I (l7.length : Int), .I r10.1, .I (l7.length : Int), .I r11.1, .I r9.1, .I (i64 (100 + r88.1)), .I x13, .I r14.1, .nil]), (114, .arr 3 1 (List.map LV.I l5)), (115, .arr 3 1 (List.map LV.I (l6.set r9.1.toNat (i64 (100 + r88.1))))), (282, .arr 34 9 (List.map GBagEvent.lv l7))]) rfl rfl rfl rfl) (Wk.trans (Wk.eq (el := [(0, .ptr 7 0), (2, .I p2), (7, .arr 282 (List.length l7)), (8, .arr 114 (List.length l5)), (9, .arr 115 (List.length (l6.set r9.1.toNat (i64 (100 + r88.1))))), (10, .I n2), (12, .ptr 112 0)]) (ml := [(7, .box [.L r88.2.L, .I r88.2.At]), (112, .box [.I (l7.length : Int), .I r10.1, .I (l7.length : Int), .I r11.1, .I r9.1, .I (i64 (100 + r88.1)), .I x13, .I r14.1, .nil]), (114, .arr 3 1 (List.map LV.I l5)), (115, .arr 3 1 (List.map LV.I (l6.set r9.1.toNat (i64 (100 + r88.1))))), (282, .arr 34 9 (List.map GBagEvent.lv l7))]) rfl rfl rfl rfl) (Wk.trans (Wk.ownBx 181 3 1 112 8 rfl rfl rfl rfl rfl (prN rfl)) (Wk.eq rfl rfl rfl rfl))))⟩
    replace h := iteF h hc87
    refine LH.seqT [(0, .ptr 7 0), (2, .I p2), (7, .arr 282 (List.length l7)), (8, .arr 114 (List.length l5)), (9, .arr 115 (List.length l6)), (10, .I n2), (12, .ptr 112 0), (115, .bool (r11.1 == 3))] [(7, .box [.L r14.2.L, .I r14.2.At]), (112, .box [.I (l7.length : Int), .I r10.1, .I (l7.length : Int), .I r11.1, .I r9.1, .I x12, .I x13, .I r14.1, .nil]), (114, .arr 3 1 (List.map LV.I l5)), (115, .arr 3 1 (List.map LV.I l6)), (282, .arr 34 9 (List.map GBagEvent.lv l7))] rfl ?_ ?_
    ·refine sN (oFa tf34_1 tk3 ts3 rfl rfl ?_)
     refine sN (oLdP rfl rfl rfl rfl tk3 ta3 ?_)
     refine sN (oEq rfl rfl ?_)
     exact s0 (Wk.eq rfl rfl rfl rfl)
    refine LH.cond (t := (r11.1 == 3)) rfl (fun hc90 => ?_) (fun hc90 => ?_)
    ·replace h := iteT h hc90
     obtain ⟨r91, hr91, h⟩ := bindS h
     refine LH.loneT [(0, .ptr 7 0), (2, .I p2), (7, .arr 282 (List.length l7)), (8, .arr 114 (List.length l5)), (9, .arr 115 (List.length l6)), (10, .I n2), (12, .ptr 112 0)] [(7, .box [.L r91.2.L, .I r91.2.At]), (112, .box [.I (l7.length : Int), .I r10.1, .I (l7.length : Int), .I r11.1, .I r9.1, .I x12, .I x13, .I r14.1, .arr 181 (List.length r91.1)]), (114, .arr 3 1 (List.map LV.I l5)), (115, .arr 3 1 (List.map LV.I l6)), (181, .arr 3 1 (List.map LV.I r91.1)), (282, .arr 34 9 (List.map GBagEvent.lv l7))] rfl ?_ ?_
     ·refine sMp rfl ?_
      refine sN (oCM (args := [.ptr 7 0, .I 9]) (ml := [(7, .box [.L r14.2.L, .I r14.2.At])]) (ml' := [(7, .box [.L r91.2.L, .I r91.2.At]), (181, .arr 3 1 (List.map LV.I r91.1))]) rfl isF29 rfl (sbR (sbR sbN)) (GTape_Sorted_ok hr91) ⟨rfl, trivial⟩ (newI rfl (newF rfl newN)) rfl ?_)
      refine sN (oFa tf34_6 tk22 ts22 rfl rfl ?_)
      refine s_ (oSt rfl rfl rfl tk22 ts22 rfl rfl rfl ?_)
      exact s0 (Wk.eq rfl rfl rfl rfl)
     exact thenN ⟨r91.2.L, r91.2.At, r11.1, x12, x13, r14.1, l5, l6, r91.1, h, Wk.eq rfl rfl rfl rfl⟩
    replace h := iteF h hc90
    refine LH.skip ?_
    exact thenN ⟨r14.2.L, r14.2.At, r11.1, x12, x13, r14.1, l5, l6, ([] : List Int), h, (Wk.trans (Wk.eq (el := [(0, .ptr 7 0), (2, .I p2), (7, .arr 282 (List.length l7)), (8, .arr 114 (List.length l5)), (9, .arr 115 (List.length l6)), (10, .I n2), (12, .ptr 112 0)]) (ml := [(7, .box [.L r14.2.L, .I r14.2.At]), (112, .box [.I (l7.length : Int), .I r10.1, .I (l7.length : Int), .I r11.1, .I r9.1, .I x12, .I x13, .I r14.1, .nil]), (114, .arr 3 1 (List.map LV.I l5)), (115, .arr 3 1 (List.map LV.I l6)), (282, .arr 34 9 (List.map GBagEvent.lv l7))]) rfl rfl rfl rfl) (Wk.trans (Wk.eq (el := [(0, .ptr 7 0), (2, .I p2), (7, .arr 282 (List.length l7)), (8, .arr 114 (List.length l5)), (9, .arr 115 (List.length l6)), (10, .I n2), (12, .ptr 112 0)]) (ml := [(7, .box [.L r14.2.L, .I r14.2.At]), (112, .box [.I (l7.length : Int), .I r10.1, .I (l7.length : Int), .I r11.1, .I r9.1, .I x12, .I x13, .I r14.1, .nil]), (114, .arr 3 1 (List.map LV.I l5)), (115, .arr 3 1 (List.map LV.I l6)), (282, .arr 34 9 (List.map GBagEvent.lv l7))]) rfl rfl rfl rfl) (Wk.trans (Wk.ownBx 181 3 1 112 8 rfl rfl rfl rfl rfl (prN rfl)) (Wk.eq rfl rfl rfl rfl))))⟩
   clear h
   rintro e m ⟨l15, n16, n17, n18, n19, n20, l21, l22, l23, h, hw⟩
   refine LH.wk hw ?_
   clear hw
   unfold GTape_BagEvents_J2 at h
   refine LH.mid (fun e m => ∃ (n24 : Int), GTape_BagEvents_J3 rec1 p2 n2 l7 r9 l15 n16 n17 n18 n19 n20 l21 l22 l23 n24 = some r ∧ Wk (fun id => Mem.of [(7, .box [.L p0.L, .I p0.At])] id ≠ .none) e m (Env.of [(0, .ptr 7 0), (2, .I p2), (7, .arr 282 (List.length l7)), (8, .arr 114 (List.length l21)), (9, .arr 115 (List.length l22)), (10, .I n2), (12, .ptr 112 0)]) (Mem.of [(7, .box [.L l15, .I n16]), (112, .box [.I (l7.length : Int), .I n24, .I (l7.length : Int), .I n17, .I r9.1, .I n18, .I n19, .I n20, .arr 181 (List.length l23)]), (114, .arr 3 1 (List.map LV.I l21)), (115, .arr 3 1 (List.map LV.I l22)), (181, .arr 3 1 (List.map LV.I l23)), (282, .arr 34 9 (List.map GBagEvent.lv l7))])) ?_ ?_
   ·refine LH.seqT [(0, .ptr 7 0), (2, .I p2), (7, .arr 282 (List.length l7)), (8, .arr 114 (List.length l21)), (9, .arr 115 (List.length l22)), (10, .I n2), (12, .ptr 112 0), (122, .bool (r10.1 != 0))] [(7, .box [.L l15, .I n16]), (112, .box [.I (l7.length : Int), .I r10.1, .I (l7.length : Int), .I n17, .I r9.1, .I n18, .I n19, .I n20, .arr 181 (List.length l23)]), (114, .arr 3 1 (List.map LV.I l21)), (115, .arr 3 1 (List.map LV.I l22)), (181, .arr 3 1 (List.map LV.I l23)), (282, .arr 34 9 (List.map GBagEvent.lv l7))] rfl ?_ ?_
    ·refine sN (oFa tf34_0 tk32 ts32 rfl rfl ?_)
     refine sN (oFa tf32_1 tk3 ts3 rfl rfl ?_)
     refine sN (oLdP rfl rfl rfl rfl tk3 ta3 ?_)
     refine sN (oNe rfl rfl ?_)
     exact s0 (Wk.eq rfl rfl rfl rfl)
    refine LH.cond (t := (r10.1 != 0)) rfl (fun hc64 => ?_) (fun hc64 => ?_)
    ·replace h := iteT h hc64
     refine LH.loneT [(0, .ptr 7 0), (2, .I p2), (7, .arr 282 (List.length l7)), (8, .arr 114 (List.length l21)), (9, .arr 115 (List.length l22)), (10, .I n2), (12, .ptr 112 0)] [(7, .box [.L l15, .I n16]), (112, .box [.I (l7.length : Int), .I (max n19 0), .I (l7.length : Int), .I n17, .I r9.1, .I n18, .I n19, .I n20, .arr 181 (List.length l23)]), (114, .arr 3 1 (List.map LV.I l21)), (115, .arr 3 1 (List.map LV.I l22)), (181, .arr 3 1 (List.map LV.I l23)), (282, .arr 34 9 (List.map GBagEvent.lv l7))] rfl ?_ ?_
     ·refine sN (oFa tf34_4 tk3 ts3 rfl rfl ?_)
      refine sN (oLdP rfl rfl rfl rfl tk3 ta3 ?_)
      refine sX ((ok_max rfl rfl).ok) ?_
      refine sN (oFa tf34_0 tk32 ts32 rfl rfl ?_)
      refine sN (oFa tf32_1 tk3 ts3 rfl rfl ?_)
      refine s_ (oSt rfl rfl rfl tk3 ts3 rfl rfl rfl ?_)
      exact s0 (Wk.eq rfl rfl rfl rfl)
     exact thenN ⟨(max n19 0), h, Wk.eq rfl rfl rfl rfl⟩
    replace h := iteF h hc64
    refine LH.skip ?_
    exact thenN ⟨r10.1, h, Wk.eq rfl rfl rfl rfl⟩
   clear h
   rintro e m ⟨n24, h, hw⟩
   refine LH.wk hw ?_
   clear hw
   unfold GTape_BagEvents_J3 at h
   refine LH.mid (fun e m => ∃ (n25 : Int) (n26 : Int) (n27 : Int) (n28 : Int) (n29 : Int) (n30 : Int) (n31 : Int) (n32 : Int) (l33 : List Int) (l34 : List Int) (n35 : Int), GTape_BagEvents_J4 rec1 n2 l7 l21 l22 n25 n26 n27 n28 n29 n30 n31 n32 l33 l34 n35 = some r ∧ Wk (fun id => Mem.of [(7, .box [.L p0.L, .I p0.At])] id ≠ .none) e m (Env.of [(0, .ptr 7 0), (2, .I p2), (7, .arr 282 (List.length l7)), (8, .arr 114 (List.length l21)), (9, .arr 115 (List.length l22)), (10, .I n2), (12, .sptr [.I n25, .I n26, .I n27, .I n28, .I n29, .I n30, .I n31, .I n32, .L l33])]) (Mem.of [(7, .box [.L l34, .I n35]), (114, .arr 3 1 (List.map LV.I l21)), (115, .arr 3 1 (List.map LV.I l22)), (282, .arr 34 9 (List.map GBagEvent.lv l7))])) ?_ ?_
   ·obtain ⟨w45, hv, h⟩ := bindS h
    refine LH.seqT [(0, .ptr 7 0), (2, .I p2), (7, .arr 282 (List.length l7)), (8, .arr 114 (List.length l21)), (9, .arr 115 (List.length l22)), (10, .I n2), (12, .ptr 112 0), (134, .bool w45.1)] [(7, .box [.L w45.2.1, .I w45.2.2]), (112, .box [.I (l7.length : Int), .I n24, .I (l7.length : Int), .I n17, .I r9.1, .I n18, .I n19, .I n20, .arr 181 (List.length l23)]), (114, .arr 3 1 (List.map LV.I l21)), (115, .arr 3 1 (List.map LV.I l22)), (181, .arr 3 1 (List.map LV.I l23)), (282, .arr 34 9 (List.map GBagEvent.lv l7))] rfl ?_ ?_
    ·refine sMi rfl ?_
     refine sN (oGt rfl rfl ?_)
     refine sMb rfl ?_
     by_cases hb46 : (decide (p2 > 0)) = true
     ·replace hv := iteT hv hb46
      refine sT rfl (congrArg LV.bool hb46) (oM (v := (.ptr _ _)) rfl ?_)
      refine sT rfl (congrArg LV.bool hb46) (oM (v := (.int _ _)) rfl ?_)
      obtain ⟨r47, hr47, hv⟩ := bindS hv
      refine sT rfl (congrArg LV.bool hb46) (oCM (args := [.ptr 7 0, .I p2]) (ml := [(7, .box [.L l15, .I n16])]) (ml' := [(7, .box [.L r47.2.L, .I r47.2.At])]) rfl isF30 rfl (sbR (sbR sbN)) (GTape_One_ok hr47) (mC rfl mN) (newI rfl newN) rfl ?_)
      refine sN (oPkT (congrArg LV.bool hb46) (v := (.bool _)) rfl ?_)
      obtain rfl := Option.some.inj hv
      exact s0 (Wk.eq rfl rfl rfl rfl)
     ·replace hb46 := bF hb46
      replace hv := iteF hv hb46
      refine sF rfl rfl hb46 ?_
      refine sF rfl rfl hb46 ?_
      refine sF rfl rfl hb46 ?_
      refine sN (oPkF (congrArg LV.bool hb46) (v := (.bool _)) rfl ?_)
      obtain rfl := Option.some.inj hv
      exact s0 (Wk.eq rfl rfl rfl rfl)
    clear hv
    refine LH.cond (t := w45.1) rfl (fun hc48 => ?_) (fun hc48 => ?_)
    ·replace h := iteT h hc48
     obtain ⟨r49, hr49, h⟩ := bindS h
     refine LH.seqT [(0, .ptr 7 0), (2, .I p2), (7, .arr 282 (List.length l7)), (8, .arr 114 (List.length l21)), (9, .arr 115 (List.length l22)), (10, .I n2), (12, .ptr 112 0), (136, .I r49.1)] [(7, .box [.L r49.2.L, .I r49.2.At]), (112, .box [.I (l7.length : Int), .I n24, .I (l7.length : Int), .I n17, .I r9.1, .I n18, .I n19, .I n20, .arr 181 (List.length l23)]), (114, .arr 3 1 (List.map LV.I l21)), (115, .arr 3 1 (List.map LV.I l22)), (181, .arr 3 1 (List.map LV.I l23)), (282, .arr 34 9 (List.map GBagEvent.lv l7))] rfl ?_ ?_
     ·refine sMp rfl ?_
      refine sN (oCM (args := [.ptr 7 0, .I 7]) (ml := [(7, .box [.L w45.2.1, .I w45.2.2])]) (ml' := [(7, .box [.L r49.2.L, .I r49.2.At])]) rfl isF14 rfl (sbR (sbR sbN)) (GTape_Next_ok hr49) (mC rfl mN) (newI rfl newN) rfl ?_)
      exact s0 (Wk.eq rfl rfl rfl rfl)
     refine LH.block ?_
     refine LH.seqT [(0, .ptr 7 0), (2, .I p2), (7, .arr 282 (List.length l7)), (8, .arr 114 (List.length l21)), (9, .arr 115 (List.length l22)), (10, .I n2), (12, .ptr 112 0), (136, .I r49.1), (140, .bool (r49.1 == 0))] [(7, .box [.L r49.2.L, .I r49.2.At]), (112, .box [.I (l7.length : Int), .I n24, .I (l7.length : Int), .I n17, .I r9.1, .I n18, .I n19, .I n20, .arr 181 (List.length l23)]), (114, .arr 3 1 (List.map LV.I l21)), (115, .arr 3 1 (List.map LV.I l22)), (181, .arr 3 1 (List.map LV.I l23)), (282, .arr 34 9 (List.map GBagEvent.lv l7))] rfl ?_ ?_
     ·refine sN (oEq rfl rfl ?_)
      refine sAb rfl ?_
      exact s0 (Wk.eq rfl rfl rfl rfl)
     refine LH.cond (t := (r49.1 == 0)) rfl (fun hc50 => ?_) (fun hc50 => ?_)
     ·replace h := iteT h hc50
      obtain ⟨r51, hr51, h⟩ := bindS h
      refine LH.loneT [(0, .ptr 7 0), (2, .I p2), (7, .arr 282 (List.length l7)), (8, .arr 114 (List.length l21)), (9, .arr 115 (List.length l22)), (10, .I n2), (12, .sptr [.I (l7.length : Int), .I n24, .I (l7.length : Int), .I r51.1, .I r9.1, .I n18, .I n19, .I n20, .L l23])] [(7, .box [.L r51.2.L, .I r51.2.At]), (114, .arr 3 1 (List.map LV.I l21)), (115, .arr 3 1 (List.map LV.I l22)), (282, .arr 34 9 (List.map GBagEvent.lv l7))] rfl ?_ ?_
      ·refine sMp rfl ?_
       refine sN (oCM (args := [.ptr 7 0, .I (-1), .I 6]) (ml := [(7, .box [.L r49.2.L, .I r49.2.At])]) (ml' := [(7, .box [.L r51.2.L, .I r51.2.At])]) rfl isF27 rfl (sbR (sbR (sbR sbN))) (GTape_Range_ok hr51) (mC rfl mN) (newI rfl newN) rfl ?_)
       refine sN (oFa tf34_1 tk3 ts3 rfl rfl ?_)
       refine s_ (oSt rfl rfl rfl tk3 ts3 rfl rfl rfl ?_)
       exact s0 ((Wk.trans (Wk.eq (el := [(0, .ptr 7 0), (2, .I p2), (7, .arr 282 (List.length l7)), (8, .arr 114 (List.length l21)), (9, .arr 115 (List.length l22)), (10, .I n2), (12, .ptr 112 0)]) (ml := [(7, .box [.L r51.2.L, .I r51.2.At]), (112, .box [.I (l7.length : Int), .I n24, .I (l7.length : Int), .I r51.1, .I r9.1, .I n18, .I n19, .I n20, .arr 181 (List.length l23)]), (114, .arr 3 1 (List.map LV.I l21)), (115, .arr 3 1 (List.map LV.I l22)), (181, .arr 3 1 (List.map LV.I l23)), (282, .arr 34 9 (List.map GBagEvent.lv l7))]) rfl rfl rfl rfl) (Wk.trans (Wk.eq (el := [(0, .ptr 7 0), (2, .I p2), (7, .arr 282 (List.length l7)), (8, .arr 114 (List.length l21)), (9, .arr 115 (List.length l22)), (10, .I n2), (12, .ptr 112 0)]) (ml := [(7, .box [.L r51.2.L, .I r51.2.At]), (112, .box [.I (l7.length : Int), .I n24, .I (l7.length : Int), .I r51.1, .I r9.1, .I n18, .I n19, .I n20, .arr 181 (List.length l23)]), (114, .arr 3 1 (List.map LV.I l21)), (115, .arr 3 1 (List.map LV.I l22)), (181, .arr 3 1 (List.map LV.I l23)), (282, .arr 34 9 (List.map GBagEvent.lv l7))]) rfl rfl rfl rfl) (Wk.trans (Wk.trans (Wk.frzBx (f := LV.I) 181 3 1 l23 112 rfl rfl rfl (frAK rfl (frAK rfl (frAK rfl (frAK rfl (frAK rfl (frAK rfl (frAK rfl (frAK rfl (frAZ frA0))))))))) rfl rfl (prN rfl)) (Wk.eq (el := [(0, .ptr 7 0), (2, .I p2), (7, .arr 282 (List.length l7)), (8, .arr 114 (List.length l21)), (9, .arr 115 (List.length l22)), (10, .I n2), (12, .ptr 112 0)]) (ml := [(7, .box [.L r51.2.L, .I r51.2.At]), (112, .box [.I (l7.length : Int), .I n24, .I (l7.length : Int), .I r51.1, .I r9.1, .I n18, .I n19, .I n20, .L l23]), (114, .arr 3 1 (List.map LV.I l21)), (115, .arr 3 1 (List.map LV.I l22)), (282, .arr 34 9 (List.map GBagEvent.lv l7))]) rfl rfl rfl rfl)) (Wk.trans (Wk.frzB 112 [.I (l7.length : Int), .I n24, .I (l7.length : Int), .I r51.1, .I r9.1, .I n18, .I n19, .I n20, .L l23] rfl rfl rfl (prN rfl)) (Wk.eq rfl rfl rfl rfl))))))
      refine blockN ?_
      exact thenN ⟨(l7.length : Int), n24, (l7.length : Int), r51.1, r9.1, n18, n19, n20, l23, r51.2.L, r51.2.At, h, Wk.eq rfl rfl rfl rfl⟩
     replace h := iteF h hc50
     refine LH.seqT [(0, .ptr 7 0), (2, .I p2), (7, .arr 282 (List.length l7)), (8, .arr 114 (List.length l21)), (9, .arr 115 (List.length l22)), (10, .I n2), (12, .ptr 112 0), (136, .I r49.1), (145, .bool (r49.1 == 1))] [(7, .box [.L r49.2.L, .I r49.2.At]), (112, .box [.I (l7.length : Int), .I n24, .I (l7.length : Int), .I n17, .I r9.1, .I n18, .I n19, .I n20, .arr 181 (List.length l23)]), (114, .arr 3 1 (List.map LV.I l21)), (115, .arr 3 1 (List.map LV.I l22)), (181, .arr 3 1 (List.map LV.I l23)), (282, .arr 34 9 (List.map GBagEvent.lv l7))] rfl ?_ ?_
     ·refine sN (oEq rfl rfl ?_)
      refine sAb rfl ?_
      exact s0 (Wk.eq rfl rfl rfl rfl)
     refine LH.cond (t := (r49.1 == 1)) rfl (fun hc52 => ?_) (fun hc52 => ?_)
     ·replace h := iteT h hc52
      obtain ⟨r53, hr53, h⟩ := bindS h
      refine LH.loneT [(0, .ptr 7 0), (2, .I p2), (7, .arr 282 (List.length l7)), (8, .arr 114 (List.length l21)), (9, .arr 115 (List.length l22)), (10, .I n2), (12, .sptr [.I (l7.length : Int), .I n24, .I (l7.length : Int), .I n17, .I r53.1, .I n18, .I n19, .I n20, .L l23])] [(7, .box [.L r53.2.L, .I r53.2.At]), (114, .arr 3 1 (List.map LV.I l21)), (115, .arr 3 1 (List.map LV.I l22)), (282, .arr 34 9 (List.map GBagEvent.lv l7))] rfl ?_ ?_
      ·refine sMp rfl ?_
       refine sN (oBS (f := LV.I) (ys := [(-1), 0, 3, 9999, 10000]) te22 tr3 ts3 rfl rfl rfl okI ?_)
       refine sN (oCM (args := [.ptr 7 0, .L [(-1), 0, 3, 9999, 10000]]) (ml := [(7, .box [.L r49.2.L, .I r49.2.At])]) (ml' := [(7, .box [.L r53.2.L, .I r53.2.At])]) rfl isF28 rfl (sbR (sbR sbN)) (GTape_Pick_ok hr53) (mC rfl mN) (newI rfl newN) rfl ?_)
       refine sN (oFa tf34_2 tk3 ts3 rfl rfl ?_)
       refine s_ (oSt rfl rfl rfl tk3 ts3 rfl rfl rfl ?_)
       exact s0 ((Wk.trans (Wk.eq (el := [(0, .ptr 7 0), (2, .I p2), (7, .arr 282 (List.length l7)), (8, .arr 114 (List.length l21)), (9, .arr 115 (List.length l22)), (10, .I n2), (12, .ptr 112 0)]) (ml := [(7, .box [.L r53.2.L, .I r53.2.At]), (112, .box [.I (l7.length : Int), .I n24, .I (l7.length : Int), .I n17, .I r53.1, .I n18, .I n19, .I n20, .arr 181 (List.length l23)]), (114, .arr 3 1 (List.map LV.I l21)), (115, .arr 3 1 (List.map LV.I l22)), (181, .arr 3 1 (List.map LV.I l23)), (282, .arr 34 9 (List.map GBagEvent.lv l7))]) rfl rfl rfl rfl) (Wk.trans (Wk.eq (el := [(0, .ptr 7 0), (2, .I p2), (7, .arr 282 (List.length l7)), (8, .arr 114 (List.length l21)), (9, .arr 115 (List.length l22)), (10, .I n2), (12, .ptr 112 0)]) (ml := [(7, .box [.L r53.2.L, .I r53.2.At]), (112, .box [.I (l7.length : Int), .I n24, .I (l7.length : Int), .I n17, .I r53.1, .I n18, .I n19, .I n20, .arr 181 (List.length l23)]), (114, .arr 3 1 (List.map LV.I l21)), (115, .arr 3 1 (List.map LV.I l22)), (181, .arr 3 1 (List.map LV.I l23)), (282, .arr 34 9 (List.map GBagEvent.lv l7))]) rfl rfl rfl rfl) (Wk.trans (Wk.trans (Wk.frzBx (f := LV.I) 181 3 1 l23 112 rfl rfl rfl (frAK rfl (frAK rfl (frAK rfl (frAK rfl (frAK rfl (frAK rfl (frAK rfl (frAK rfl (frAZ frA0))))))))) rfl rfl (prN rfl)) (Wk.eq (el := [(0, .ptr 7 0), (2, .I p2), (7, .arr 282 (List.length l7)), (8, .arr 114 (List.length l21)), (9, .arr 115 (List.length l22)), (10, .I n2), (12, .ptr 112 0)]) (ml := [(7, .box [.L r53.2.L, .I r53.2.At]), (112, .box [.I (l7.length : Int), .I n24, .I (l7.length : Int), .I n17, .I r53.1, .I n18, .I n19, .I n20, .L l23]), (114, .arr 3 1 (List.map LV.I l21)), (115, .arr 3 1 (List.map LV.I l22)), (282, .arr 34 9 (List.map GBagEvent.lv l7))]) rfl rfl rfl rfl)) (Wk.trans (Wk.frzB 112 [.I (l7.length : Int), .I n24, .I (l7.length : Int), .I n17, .I r53.1, .I n18, .I n19, .I n20, .L l23] rfl rfl rfl (prN rfl)) (Wk.eq rfl rfl rfl rfl))))))
      refine blockN ?_
      exact thenN ⟨(l7.length : Int), n24, (l7.length : Int), n17, r53.1, n18, n19, n20, l23, r53.2.L, r53.2.At, h, Wk.eq rfl rfl rfl rfl⟩
     replace h := iteF h hc52
     refine LH.seqT [(0, .ptr 7 0), (2, .I p2), (7, .arr 282 (List.length l7)), (8, .arr 114 (List.length l21)), (9, .arr 115 (List.length l22)), (10, .I n2), (12, .ptr 112 0), (136, .I r49.1), (151, .bool (r49.1 == 2))] [(7, .box [.L r49.2.L, .I r49.2.At]), (112, .box [.I (l7.length : Int), .I n24, .I (l7.length : Int), .I n17, .I r9.1, .I n18, .I n19, .I n20, .arr 181 (List.length l23)]), (114, .arr 3 1 (List.map LV.I l21)), (115, .arr 3 1 (List.map LV.I l22)), (181, .arr 3 1 (List.map LV.I l23)), (282, .arr 34 9 (List.map GBagEvent.lv l7))] rfl ?_ ?_
     ·refine sN (oEq rfl rfl ?_)
      refine sAb rfl ?_
      exact s0 (Wk.eq rfl rfl rfl rfl)
     refine LH.cond (t := (r49.1 == 2)) rfl (fun hc54 => ?_) (fun hc54 => ?_)
     ·replace h := iteT h hc54
      obtain ⟨r55, hr55, h⟩ := bindS h
      refine LH.loneT [(0, .ptr 7 0), (2, .I p2), (7, .arr 282 (List.length l7)), (8, .arr 114 (List.length l21)), (9, .arr 115 (List.length l22)), (10, .I n2), (12, .sptr [.I (l7.length : Int), .I n24, .I (l7.length : Int), .I n17, .I r9.1, .I r55.1, .I n19, .I n20, .L l23])] [(7, .box [.L r55.2.L, .I r55.2.At]), (114, .arr 3 1 (List.map LV.I l21)), (115, .arr 3 1 (List.map LV.I l22)), (282, .arr 34 9 (List.map GBagEvent.lv l7))] rfl ?_ ?_
      ·refine sMp rfl ?_
       refine sN (oBS (f := LV.I) (ys := [(-1), 0, 10, 1000000, 1000001]) te22 tr3 ts3 rfl rfl rfl okI ?_)
       refine sN (oCM (args := [.ptr 7 0, .L [(-1), 0, 10, 1000000, 1000001]]) (ml := [(7, .box [.L r49.2.L, .I r49.2.At])]) (ml' := [(7, .box [.L r55.2.L, .I r55.2.At])]) rfl isF28 rfl (sbR (sbR sbN)) (GTape_Pick_ok hr55) (mC rfl mN) (newI rfl newN) rfl ?_)
       refine sN (oFa tf34_3 tk3 ts3 rfl rfl ?_)
       refine s_ (oSt rfl rfl rfl tk3 ts3 rfl rfl rfl ?_)
       exact s0 ((Wk.trans (Wk.eq (el := [(0, .ptr 7 0), (2, .I p2), (7, .arr 282 (List.length l7)), (8, .arr 114 (List.length l21)), (9, .arr 115 (List.length l22)), (10, .I n2), (12, .ptr 112 0)]) (ml := [(7, .box [.L r55.2.L, .I r55.2.At]), (112, .box [.I (l7.length : Int), .I n24, .I (l7.length : Int), .I n17, .I r9.1, .I r55.1, .I n19, .I n20, .arr 181 (List.length l23)]), (114, .arr 3 1 (List.map LV.I l21)), (115, .arr 3 1 (List.map LV.I l22)), (181, .arr 3 1 (List.map LV.I l23)), (282, .arr 34 9 (List.map GBagEvent.lv l7))]) rfl rfl rfl rfl) (Wk.trans (Wk.eq (el := [(0, .ptr 7 0), (2, .I p2), (7, .arr 282 (List.length l7)), (8, .arr 114 (List.length l21)), (9, .arr 115 (List.length l22)), (10, .I n2), (12, .ptr 112 0)]) (ml := [(7, .box [.L r55.2.L, .I r55.2.At]), (112, .box [.I (l7.length : Int), .I n24, .I (l7.length : Int), .I n17, .I r9.1, .I r55.1, .I n19, .I n20, .arr 181 (List.length l23)]), (114, .arr 3 1 (List.map LV.I l21)), (115, .arr 3 1 (List.map LV.I l22)), (181, .arr 3 1 (List.map LV.I l23)), (282, .arr 34 9 (List.map GBagEvent.lv l7))]) rfl rfl rfl rfl) (Wk.trans (Wk.trans (Wk.frzBx (f := LV.I) 181 3 1 l23 112 rfl rfl rfl (frAK rfl (frAK rfl (frAK rfl (frAK rfl (frAK rfl (frAK rfl (frAK rfl (frAK rfl (frAZ frA0))))))))) rfl rfl (prN rfl)) (Wk.eq (el := [(0, .ptr 7 0), (2, .I p2), (7, .arr 282 (List.length l7)), (8, .arr 114 (List.length l21)), (9, .arr 115 (List.length l22)), (10, .I n2), (12, .ptr 112 0)]) (ml := [(7, .box [.L r55.2.L, .I r55.2.At]), (112, .box [.I (l7.length : Int), .I n24, .I (l7.length : Int), .I n17, .I r9.1, .I r55.1, .I n19, .I n20, .L l23]), (114, .arr 3 1 (List.map LV.I l21)), (115, .arr 3 1 (List.map LV.I l22)), (282, .arr 34 9 (List.map GBagEvent.lv l7))]) rfl rfl rfl rfl)) (Wk.trans (Wk.frzB 112 [.I (l7.length : Int), .I n24, .I (l7.length : Int), .I n17, .I r9.1, .I r55.1, .I n19, .I n20, .L l23] rfl rfl rfl (prN rfl)) (Wk.eq rfl rfl rfl rfl))))))
      refine blockN ?_
      exact thenN ⟨(l7.length : Int), n24, (l7.length : Int), n17, r9.1, r55.1, n19, n20, l23, r55.2.L, r55.2.At, h, Wk.eq rfl rfl rfl rfl⟩
     replace h := iteF h hc54
     refine LH.seqT [(0, .ptr 7 0), (2, .I p2), (7, .arr 282 (List.length l7)), (8, .arr 114 (List.length l21)), (9, .arr 115 (List.length l22)), (10, .I n2), (12, .ptr 112 0), (136, .I r49.1), (157, .bool (r49.1 == 3))] [(7, .box [.L r49.2.L, .I r49.2.At]), (112, .box [.I (l7.length : Int), .I n24, .I (l7.length : Int), .I n17, .I r9.1, .I n18, .I n19, .I n20, .arr 181 (List.length l23)]), (114, .arr 3 1 (List.map LV.I l21)), (115, .arr 3 1 (List.map LV.I l22)), (181, .arr 3 1 (List.map LV.I l23)), (282, .arr 34 9 (List.map GBagEvent.lv l7))] rfl ?_ ?_
     ·refine sN (oEq rfl rfl ?_)
      refine sAb rfl ?_
      exact s0 (Wk.eq rfl rfl rfl rfl)
     refine LH.cond (t := (r49.1 == 3)) rfl (fun hc56 => ?_) (fun hc56 => ?_)
     ·replace h := iteT h hc56
      obtain ⟨r57, hr57, h⟩ := bindS h
      refine LH.loneT [(0, .ptr 7 0), (2, .I p2), (7, .arr 282 (List.length l7)), (8, .arr 114 (List.length l21)), (9, .arr 115 (List.length l22)), (10, .I n2), (12, .sptr [.I (l7.length : Int), .I n24, .I (l7.length : Int), .I n17, .I r9.1, .I n18, .I r57.1, .I n20, .L l23])] [(7, .box [.L r57.2.L, .I r57.2.At]), (114, .arr 3 1 (List.map LV.I l21)), (115, .arr 3 1 (List.map LV.I l22)), (282, .arr 34 9 (List.map GBagEvent.lv l7))] rfl ?_ ?_
      ·refine sMp rfl ?_
       refine sN (oBS (f := LV.I) (ys := [(-1), 0, 1, 99, 100]) te22 tr3 ts3 rfl rfl rfl okI ?_)
       refine sN (oCM (args := [.ptr 7 0, .L [(-1), 0, 1, 99, 100]]) (ml := [(7, .box [.L r49.2.L, .I r49.2.At])]) (ml' := [(7, .box [.L r57.2.L, .I r57.2.At])]) rfl isF28 rfl (sbR (sbR sbN)) (GTape_Pick_ok hr57) (mC rfl mN) (newI rfl newN) rfl ?_)
       refine sN (oFa tf34_4 tk3 ts3 rfl rfl ?_)
       refine s_ (oSt rfl rfl rfl tk3 ts3 rfl rfl rfl ?_)
       exact s0 ((Wk.trans (Wk.eq (el := [(0, .ptr 7 0), (2, .I p2), (7, .arr 282 (List.length l7)), (8, .arr 114 (List.length l21)), (9, .arr 115 (List.length l22)), (10, .I n2), (12, .ptr 112 0)]) (ml := [(7, .box [.L r57.2.L, .I r57.2.At]), (112, .box [.I (l7.length : Int), .I n24, .I (l7.length : Int), .I n17, .I r9.1, .I n18, .I r57.1, .I n20, .arr 181 (List.length l23)]), (114, .arr 3 1 (List.map LV.I l21)), (115, .arr 3 1 (List.map LV.I l22)), (181, .arr 3 1 (List.map LV.I l23)), (282, .arr 34 9 (List.map GBagEvent.lv l7))]) rfl rfl rfl rfl) (Wk.trans (Wk.eq (el := [(0, .ptr 7 0), (2, .I p2), (7, .arr 282 (List.length l7)), (8, .arr 114 (List.length l21)), (9, .arr 115 (List.length l22)), (10, .I n2), (12, .ptr 112 0)]) (ml := [(7, .box [.L r57.2.L, .I r57.2.At]), (112, .box [.I (l7.length : Int), .I n24, .I (l7.length : Int), .I n17, .I r9.1, .I n18, .I r57.1, .I n20, .arr 181 (List.length l23)]), (114, .arr 3 1 (List.map LV.I l21)), (115, .arr 3 1 (List.map LV.I l22)), (181, .arr 3 1 (List.map LV.I l23)), (282, .arr 34 9 (List.map GBagEvent.lv l7))]) rfl rfl rfl rfl) (Wk.trans (Wk.trans (Wk.frzBx (f := LV.I) 181 3 1 l23 112 rfl rfl rfl (frAK rfl (frAK rfl (frAK rfl (frAK rfl (frAK rfl (frAK rfl (frAK rfl (frAK rfl (frAZ frA0))))))))) rfl rfl (prN rfl)) (Wk.eq (el := [(0, .ptr 7 0), (2, .I p2), (7, .arr 282 (List.length l7)), (8, .arr 114 (List.length l21)), (9, .arr 115 (List.length l22)), (10, .I n2), (12, .ptr 112 0)]) (ml := [(7, .box [.L r57.2.L, .I r57.2.At]), (112, .box [.I (l7.length : Int), .I n24, .I (l7.length : Int), .I n17, .I r9.1, .I n18, .I r57.1, .I n20, .L l23]), (114, .arr 3 1 (List.map LV.I l21)), (115, .arr 3 1 (List.map LV.I l22)), (282, .arr 34 9 (List.map GBagEvent.lv l7))]) rfl rfl rfl rfl)) (Wk.trans (Wk.frzB 112 [.I (l7.length : Int), .I n24, .I (l7.length : Int), .I n17, .I r9.1, .I n18, .I r57.1, .I n20, .L l23] rfl rfl rfl (prN rfl)) (Wk.eq rfl rfl rfl rfl))))))
      refine blockN ?_
      exact thenN ⟨(l7.length : Int), n24, (l7.length : Int), n17, r9.1, n18, r57.1, n20, l23, r57.2.L, r57.2.At, h, Wk.eq rfl rfl rfl rfl⟩
     replace h := iteF h hc56
     refine LH.seqT [(0, .ptr 7 0), (2, .I p2), (7, .arr 282 (List.length l7)), (8, .arr 114 (List.length l21)), (9, .arr 115 (List.length l22)), (10, .I n2), (12, .ptr 112 0), (136, .I r49.1), (163, .bool (r49.1 == 4))] [(7, .box [.L r49.2.L, .I r49.2.At]), (112, .box [.I (l7.length : Int), .I n24, .I (l7.length : Int), .I n17, .I r9.1, .I n18, .I n19, .I n20, .arr 181 (List.length l23)]), (114, .arr 3 1 (List.map LV.I l21)), (115, .arr 3 1 (List.map LV.I l22)), (181, .arr 3 1 (List.map LV.I l23)), (282, .arr 34 9 (List.map GBagEvent.lv l7))] rfl ?_ ?_
     ·refine sN (oEq rfl rfl ?_)
      refine sAb rfl ?_
      exact s0 (Wk.eq rfl rfl rfl rfl)
     refine LH.cond (t := (r49.1 == 4)) rfl (fun hc58 => ?_) (fun hc58 => ?_)
     ·replace h := iteT h hc58
      obtain ⟨r59, hr59, h⟩ := bindS h
      refine LH.loneT [(0, .ptr 7 0), (2, .I p2), (7, .arr 282 (List.length l7)), (8, .arr 114 (List.length l21)), (9, .arr 115 (List.length l22)), (10, .I n2), (12, .sptr [.I (l7.length : Int), .I n24, .I (l7.length : Int), .I n17, .I r9.1, .I n18, .I n19, .I r59.1, .L l23])] [(7, .box [.L r59.2.L, .I r59.2.At]), (114, .arr 3 1 (List.map LV.I l21)), (115, .arr 3 1 (List.map LV.I l22)), (282, .arr 34 9 (List.map GBagEvent.lv l7))] rfl ?_ ?_
      ·refine sMp rfl ?_
       refine sN (oBS (f := LV.I) (ys := [(-1), 0, 1, 99, 100]) te22 tr3 ts3 rfl rfl rfl okI ?_)
       refine sN (oCM (args := [.ptr 7 0, .L [(-1), 0, 1, 99, 100]]) (ml := [(7, .box [.L r49.2.L, .I r49.2.At])]) (ml' := [(7, .box [.L r59.2.L, .I r59.2.At])]) rfl isF28 rfl (sbR (sbR sbN)) (GTape_Pick_ok hr59) (mC rfl mN) (newI rfl newN) rfl ?_)
       refine sN (oFa tf34_5 tk3 ts3 rfl rfl ?_)
       refine s_ (oSt rfl rfl rfl tk3 ts3 rfl rfl rfl ?_)
       exact s0 ((Wk.trans (Wk.eq (el := [(0, .ptr 7 0), (2, .I p2), (7, .arr 282 (List.length l7)), (8, .arr 114 (List.length l21)), (9, .arr 115 (List.length l22)), (10, .I n2), (12, .ptr 112 0)]) (ml := [(7, .box [.L r59.2.L, .I r59.2.At]), (112, .box [.I (l7.length : Int), .I n24, .I (l7.length : Int), .I n17, .I r9.1, .I n18, .I n19, .I r59.1, .arr 181 (List.length l23)]), (114, .arr 3 1 (List.map LV.I l21)), (115, .arr 3 1 (List.map LV.I l22)), (181, .arr 3 1 (List.map LV.I l23)), (282, .arr 34 9 (List.map GBagEvent.lv l7))]) rfl rfl rfl rfl) (Wk.trans (Wk.eq (el := [(0, .ptr 7 0), (2, .I p2), (7, .arr 282 (List.length l7)), (8, .arr 114 (List.length l21)), (9, .arr 115 (List.length l22)), (10, .I n2), (12, .ptr 112 0)]) (ml := [(7, .box [.L r59.2.L, .I r59.2.At]), (112, .box [.I (l7.length : Int), .I n24, .I (l7.length : Int), .I n17, .I r9.1, .I n18, .I n19, .I r59.1, .arr 181 (List.length l23)]), (114, .arr 3 1 (List.map LV.I l21)), (115, .arr 3 1 (List.map LV.I l22)), (181, .arr 3 1 (List.map LV.I l23)), (282, .arr 34 9 (List.map GBagEvent.lv l7))]) rfl rfl rfl rfl) (Wk.trans (Wk.trans (Wk.frzBx (f := LV.I) 181 3 1 l23 112 rfl rfl rfl (frAK rfl (frAK rfl (frAK rfl (frAK rfl (frAK rfl (frAK rfl (frAK rfl (frAK rfl (frAZ frA0))))))))) rfl rfl (prN rfl)) (Wk.eq (el := [(0, .ptr 7 0), (2, .I p2), (7, .arr 282 (List.length l7)), (8, .arr 114 (List.length l21)), (9, .arr 115 (List.length l22)), (10, .I n2), (12, .ptr 112 0)]) (ml := [(7, .box [.L r59.2.L, .I r59.2.At]), (112, .box [.I (l7.length : Int), .I n24, .I (l7.length : Int), .I n17, .I r9.1, .I n18, .I n19, .I r59.1, .L l23]), (114, .arr 3 1 (List.map LV.I l21)), (115, .arr 3 1 (List.map LV.I l22)), (282, .arr 34 9 (List.map GBagEvent.lv l7))]) rfl rfl rfl rfl)) (Wk.trans (Wk.frzB 112 [.I (l7.length : Int), .I n24, .I (l7.length : Int), .I n17, .I r9.1, .I n18, .I n19, .I r59.1, .L l23] rfl rfl rfl (prN rfl)) (Wk.eq rfl rfl rfl rfl))))))
      refine blockN ?_
      exact thenN ⟨(l7.length : Int), n24, (l7.length : Int), n17, r9.1, n18, n19, r59.1, l23, r59.2.L, r59.2.At, h, Wk.eq rfl rfl rfl rfl⟩
     replace h := iteF h hc58
     refine LH.seqT [(0, .ptr 7 0), (2, .I p2), (7, .arr 282 (List.length l7)), (8, .arr 114 (List.length l21)), (9, .arr 115 (List.length l22)), (10, .I n2), (12, .ptr 112 0), (169, .bool (r49.1 == 5))] [(7, .box [.L r49.2.L, .I r49.2.At]), (112, .box [.I (l7.length : Int), .I n24, .I (l7.length : Int), .I n17, .I r9.1, .I n18, .I n19, .I n20, .arr 181 (List.length l23)]), (114, .arr 3 1 (List.map LV.I l21)), (115, .arr 3 1 (List.map LV.I l22)), (181, .arr 3 1 (List.map LV.I l23)), (282, .arr 34 9 (List.map GBagEvent.lv l7))] rfl ?_ ?_
     ·refine sN (oEq rfl rfl ?_)
      refine sAb rfl ?_
      exact s0 (Wk.eq rfl rfl rfl rfl)
     refine LH.cond (t := (r49.1 == 5)) rfl (fun hc60 => ?_) (fun hc60 => ?_)
     ·replace h := iteT h hc60
      obtain ⟨r61, hr61, h⟩ := bindS h
      obtain ⟨v62, hv62, h⟩ := bindS h
      refine LH.loneTM mixed [] [0, 1112, 0, 0, 100007, 0, 2, 0, 100112] [(0, .ptr 7 0), (2, .I p2), (7, .arr 282 (List.length l7)), (8, .arr 114 (List.length l21)), (9, .arr 115 (List.length l22)), (10, .I n2), (12, .sptr [.I (l7.length : Int), .I n24, .I (l7.length : Int), .I n17, .I r9.1, .I n18, .I n19, .I n20, .L v62])] [(7, .box [.L r61.2.L, .I r61.2.At]), (114, .arr 3 1 (List.map LV.I l21)), (115, .arr 3 1 (List.map LV.I l22)), (282, .arr 34 9 (List.map GBagEvent.lv l7))] rfl rfl (by kernel_rfl) ?_ ?_
      ·refine mN0 (oFa tf34_6 tk22 ts22 rfl rfl ⟨rfl, ?_⟩)
       refine mD rfl rfl rfl (fun m0 hm0 K0 hK0 => oLdP rfl hm0 rfl rfl tk22 ta22 hK0) ?_
       refine mN0 (oM (v := (.ptr _ _)) rfl ⟨rfl, ?_⟩)
       refine mN0 (oBS (f := LV.I) (ys := [0, 9999, 10000, (-1)]) te22 tr3 ts3 rfl rfl rfl okI ⟨rfl, ?_⟩)
       refine mW rfl rfl rfl (fun m0 hm0 K0 hK0 => oCM (args := [.ptr 7 0, .L [0, 9999, 10000, (-1)]]) (ml := [(7, .box [.L r49.2.L, .I r49.2.At])]) (ml' := [(7, .box [.L r61.2.L, .I r61.2.At])]) rfl isF28 rfl (sbR (sbR sbN)) (GTape_Pick_ok hr61) (mC hm0 mN) (newI rfl newN) rfl hK0) ?_
       refine mN0 (oBS (f := LV.I) (ys := [r61.1]) te22 tr3 ts3 rfl rfl rfl okI ⟨rfl, ?_⟩)
       refine mN2 (oAp (f := LV.I) te22 tr3 ts3 rfl rfl (prN rfl) rfl hv62 ?_)
       refine mN0 (oFa tf34_6 tk22 ts22 rfl rfl ⟨rfl, ?_⟩)
       refine mS rfl rfl rfl (fun m0 hm0 K0 hK0 => oSt rfl rfl rfl tk22 ts22 hm0 rfl rfl hK0) ?_
       exact m0 ((Wk.trans (Wk.eq (el := [(0, .ptr 7 0), (2, .I p2), (7, .arr 282 (List.length l7)), (8, .arr 114 (List.length l21)), (9, .arr 115 (List.length l22)), (10, .I n2), (12, .ptr 112 0)]) (ml := [(7, .box [.L r61.2.L, .I r61.2.At]), (112, .box [.I (l7.length : Int), .I n24, .I (l7.length : Int), .I n17, .I r9.1, .I n18, .I n19, .I n20, .arr 181 (List.length v62)]), (114, .arr 3 1 (List.map LV.I l21)), (115, .arr 3 1 (List.map LV.I l22)), (181, .arr 3 1 (List.map LV.I v62)), (282, .arr 34 9 (List.map GBagEvent.lv l7))]) rfl rfl rfl rfl) (Wk.trans (Wk.eq (el := [(0, .ptr 7 0), (2, .I p2), (7, .arr 282 (List.length l7)), (8, .arr 114 (List.length l21)), (9, .arr 115 (List.length l22)), (10, .I n2), (12, .ptr 112 0)]) (ml := [(7, .box [.L r61.2.L, .I r61.2.At]), (112, .box [.I (l7.length : Int), .I n24, .I (l7.length : Int), .I n17, .I r9.1, .I n18, .I n19, .I n20, .arr 181 (List.length v62)]), (114, .arr 3 1 (List.map LV.I l21)), (115, .arr 3 1 (List.map LV.I l22)), (181, .arr 3 1 (List.map LV.I v62)), (282, .arr 34 9 (List.map GBagEvent.lv l7))]) rfl rfl rfl rfl) (Wk.trans (Wk.trans (Wk.frzBx (f := LV.I) 181 3 1 v62 112 rfl rfl rfl (frAK rfl (frAK rfl (frAK rfl (frAK rfl (frAK rfl (frAK rfl (frAK rfl (frAK rfl (frAZ frA0))))))))) rfl rfl (prN rfl)) (Wk.eq (el := [(0, .ptr 7 0), (2, .I p2), (7, .arr 282 (List.length l7)), (8, .arr 114 (List.length l21)), (9, .arr 115 (List.length l22)), (10, .I n2), (12, .ptr 112 0)]) (ml := [(7, .box [.L r61.2.L, .I r61.2.At]), (112, .box [.I (l7.length : Int), .I n24, .I (l7.length : Int), .I n17, .I r9.1, .I n18, .I n19, .I n20, .L v62]), (114, .arr 3 1 (List.map LV.I l21)), (115, .arr 3 1 (List.map LV.I l22)), (282, .arr 34 9 (List.map GBagEvent.lv l7))]) rfl rfl rfl rfl)) (Wk.trans (Wk.frzB 112 [.I (l7.length : Int), .I n24, .I (l7.length : Int), .I n17, .I r9.1, .I n18, .I n19, .I n20, .L v62] rfl rfl rfl (prN rfl)) (Wk.eq rfl rfl rfl rfl))))))
      refine blockN ?_
      exact thenN ⟨(l7.length : Int), n24, (l7.length : Int), n17, r9.1, n18, n19, n20, v62, r61.2.L, r61.2.At, h, Wk.eq rfl rfl rfl rfl⟩
     replace h := iteF h hc60
     obtain ⟨r63, hr63, h⟩ := bindS h
     refine LH.loneT [(0, .ptr 7 0), (2, .I p2), (7, .arr 282 (List.length l7)), (8, .arr 114 (List.length l21)), (9, .arr 115 (List.length l22)), (10, .I n2), (12, .sptr [.I r63.1.Time, .I r63.1.Source, .I r63.1.Seq, .I n17, .I r9.1, .I n18, .I n19, .I n20, .L l23])] [(7, .box [.L r63.2.L, .I r63.2.At]), (114, .arr 3 1 (List.map LV.I l21)), (115, .arr 3 1 (List.map LV.I l22)), (282, .arr 34 9 (List.map GBagEvent.lv l7))] rfl ?_ ?_
     ·refine sMp rfl ?_
      refine sN (oCM (args := [.ptr 7 0, .I 4]) (ml := [(7, .box [.L r49.2.L, .I r49.2.At])]) (ml' := [(7, .box [.L r63.2.L, .I r63.2.At])]) rfl isF31 rfl (sbR (sbR sbN)) (GTape_Stamp_ok hr63) (mC rfl mN) (newI rfl newN) rfl ?_)
      refine sN (oFa tf34_0 tk32 ts32 rfl rfl ?_)
      refine s_ (oSt rfl rfl rfl tk32 ts32 rfl rfl rfl ?_)
      exact s0 ((Wk.trans (Wk.eq (el := [(0, .ptr 7 0), (2, .I p2), (7, .arr 282 (List.length l7)), (8, .arr 114 (List.length l21)), (9, .arr 115 (List.length l22)), (10, .I n2), (12, .ptr 112 0)]) (ml := [(7, .box [.L r63.2.L, .I r63.2.At]), (112, .box [.I r63.1.Time, .I r63.1.Source, .I r63.1.Seq, .I n17, .I r9.1, .I n18, .I n19, .I n20, .arr 181 (List.length l23)]), (114, .arr 3 1 (List.map LV.I l21)), (115, .arr 3 1 (List.map LV.I l22)), (181, .arr 3 1 (List.map LV.I l23)), (282, .arr 34 9 (List.map GBagEvent.lv l7))]) rfl rfl rfl rfl) (Wk.trans (Wk.eq (el := [(0, .ptr 7 0), (2, .I p2), (7, .arr 282 (List.length l7)), (8, .arr 114 (List.length l21)), (9, .arr 115 (List.length l22)), (10, .I n2), (12, .ptr 112 0)]) (ml := [(7, .box [.L r63.2.L, .I r63.2.At]), (112, .box [.I r63.1.Time, .I r63.1.Source, .I r63.1.Seq, .I n17, .I r9.1, .I n18, .I n19, .I n20, .arr 181 (List.length l23)]), (114, .arr 3 1 (List.map LV.I l21)), (115, .arr 3 1 (List.map LV.I l22)), (181, .arr 3 1 (List.map LV.I l23)), (282, .arr 34 9 (List.map GBagEvent.lv l7))]) rfl rfl rfl rfl) (Wk.trans (Wk.trans (Wk.frzBx (f := LV.I) 181 3 1 l23 112 rfl rfl rfl (frAK rfl (frAK rfl (frAK rfl (frAK rfl (frAK rfl (frAK rfl (frAK rfl (frAK rfl (frAZ frA0))))))))) rfl rfl (prN rfl)) (Wk.eq (el := [(0, .ptr 7 0), (2, .I p2), (7, .arr 282 (List.length l7)), (8, .arr 114 (List.length l21)), (9, .arr 115 (List.length l22)), (10, .I n2), (12, .ptr 112 0)]) (ml := [(7, .box [.L r63.2.L, .I r63.2.At]), (112, .box [.I r63.1.Time, .I r63.1.Source, .I r63.1.Seq, .I n17, .I r9.1, .I n18, .I n19, .I n20, .L l23]), (114, .arr 3 1 (List.map LV.I l21)), (115, .arr 3 1 (List.map LV.I l22)), (282, .arr 34 9 (List.map GBagEvent.lv l7))]) rfl rfl rfl rfl)) (Wk.trans (Wk.frzB 112 [.I r63.1.Time, .I r63.1.Source, .I r63.1.Seq, .I n17, .I r9.1, .I n18, .I n19, .I n20, .L l23] rfl rfl rfl (prN rfl)) (Wk.eq rfl rfl rfl rfl))))))
     refine blockN ?_
     exact thenN ⟨r63.1.Time, r63.1.Source, r63.1.Seq, n17, r9.1, n18, n19, n20, l23, r63.2.L, r63.2.At, h, Wk.eq rfl rfl rfl rfl⟩
    replace h := iteF h hc48
    refine LH.skip ?_
    exact thenN ⟨(l7.length : Int), n24, (l7.length : Int), n17, r9.1, n18, n19, n20, l23, w45.2.1, w45.2.2, h, (Wk.trans (Wk.eq (el := [(0, .ptr 7 0), (2, .I p2), (7, .arr 282 (List.length l7)), (8, .arr 114 (List.length l21)), (9, .arr 115 (List.length l22)), (10, .I n2), (12, .ptr 112 0)]) (ml := [(7, .box [.L w45.2.1, .I w45.2.2]), (112, .box [.I (l7.length : Int), .I n24, .I (l7.length : Int), .I n17, .I r9.1, .I n18, .I n19, .I n20, .arr 181 (List.length l23)]), (114, .arr 3 1 (List.map LV.I l21)), (115, .arr 3 1 (List.map LV.I l22)), (181, .arr 3 1 (List.map LV.I l23)), (282, .arr 34 9 (List.map GBagEvent.lv l7))]) rfl rfl rfl rfl) (Wk.trans (Wk.eq (el := [(0, .ptr 7 0), (2, .I p2), (7, .arr 282 (List.length l7)), (8, .arr 114 (List.length l21)), (9, .arr 115 (List.length l22)), (10, .I n2), (12, .ptr 112 0)]) (ml := [(7, .box [.L w45.2.1, .I w45.2.2]), (112, .box [.I (l7.length : Int), .I n24, .I (l7.length : Int), .I n17, .I r9.1, .I n18, .I n19, .I n20, .arr 181 (List.length l23)]), (114, .arr 3 1 (List.map LV.I l21)), (115, .arr 3 1 (List.map LV.I l22)), (181, .arr 3 1 (List.map LV.I l23)), (282, .arr 34 9 (List.map GBagEvent.lv l7))]) rfl rfl rfl rfl) (Wk.trans (Wk.trans (Wk.frzBx (f := LV.I) 181 3 1 l23 112 rfl rfl rfl (frAK rfl (frAK rfl (frAK rfl (frAK rfl (frAK rfl (frAK rfl (frAK rfl (frAK rfl (frAZ frA0))))))))) rfl rfl (prN rfl)) (Wk.eq (el := [(0, .ptr 7 0), (2, .I p2), (7, .arr 282 (List.length l7)), (8, .arr 114 (List.length l21)), (9, .arr 115 (List.length l22)), (10, .I n2), (12, .ptr 112 0)]) (ml := [(7, .box [.L w45.2.1, .I w45.2.2]), (112, .box [.I (l7.length : Int), .I n24, .I (l7.length : Int), .I n17, .I r9.1, .I n18, .I n19, .I n20, .L l23]), (114, .arr 3 1 (List.map LV.I l21)), (115, .arr 3 1 (List.map LV.I l22)), (282, .arr 34 9 (List.map GBagEvent.lv l7))]) rfl rfl rfl rfl)) (Wk.trans (Wk.frzB 112 [.I (l7.length : Int), .I n24, .I (l7.length : Int), .I n17, .I r9.1, .I n18, .I n19, .I n20, .L l23] rfl rfl rfl (prN rfl)) (Wk.eq rfl rfl rfl rfl)))))⟩
   clear h
   rintro e m ⟨n25, n26, n27, n28, n29, n30, n31, n32, l33, l34, n35, h, hw⟩
   refine LH.wk hw ?_
   clear hw
   unfold GTape_BagEvents_J4 at h
   obtain ⟨v36, hv36, h⟩ := bindS h
   refine LH.seqT [(0, .ptr 7 0), (2, .I p2), (7, .arr 282 (List.length v36)), (8, .arr 114 (List.length l21)), (9, .arr 115 (List.length l22)), (10, .I n2)] [(7, .box [.L l34, .I n35]), (114, .arr 3 1 (List.map LV.I l21)), (115, .arr 3 1 (List.map LV.I l22)), (282, .arr 34 9 (List.map GBagEvent.lv v36))] rfl ?_ ?_
   ·refine sMa rfl ?_
    refine sN (oLdA rfl tk34 ta34 ts34 rfl rfl ?_)
    refine sN (oBS (f := GBagEvent.lv) (ys := [(GBagEvent.mk (GStamp.mk n25 n26 n27) n28 n29 n30 n31 n32 l33)]) te25 tr34 ts34 rfl rfl rfl GBagEvent.ok ?_)
    refine sN (oAp (f := GBagEvent.lv) te25 tr34 ts34 rfl rfl (prN rfl) rfl hv36 ?_)
    refine sAa rfl ?_
    exact s0 (Wk.eq rfl rfl rfl rfl)
   obtain ⟨r37, hr37, h⟩ := bindS h
   refine LH.seqT [(0, .ptr 7 0), (2, .I p2), (7, .arr 282 (List.length v36)), (8, .arr 114 (List.length l21)), (9, .arr 115 (List.length l22)), (10, .I n2), (184, .bool r37.1)] [(7, .box [.L r37.2.L, .I r37.2.At]), (114, .arr 3 1 (List.map LV.I l21)), (115, .arr 3 1 (List.map LV.I l22)), (282, .arr 34 9 (List.map GBagEvent.lv v36))] rfl ?_ ?_
   ·refine sMp rfl ?_
    refine sN (oCM (args := [.ptr 7 0, .I 8]) (ml := [(7, .box [.L l34, .I n35])]) (ml' := [(7, .box [.L r37.2.L, .I r37.2.At])]) rfl isF30 rfl (sbR (sbR sbN)) (GTape_One_ok hr37) (mC rfl mN) (newI rfl newN) rfl ?_)
    exact s0 (Wk.eq rfl rfl rfl rfl)
   refine LH.cond (t := r37.1) rfl (fun hc38 => ?_) (fun hc38 => ?_)
   ·replace h := iteT h hc38
    obtain ⟨r39, hr39, h⟩ := bindS h
    obtain ⟨x40, hx40, h⟩ := bindS h
    obtain ⟨v41, hv41, h⟩ := bindS h
    refine LH.loneT [(0, .ptr 7 0), (2, .I p2), (7, .arr 282 (List.length v41)), (8, .arr 114 (List.length l21)), (9, .arr 115 (List.length l22)), (10, .I n2)] [(7, .box [.L r39.2.L, .I r39.2.At]), (114, .arr 3 1 (List.map LV.I l21)), (115, .arr 3 1 (List.map LV.I l22)), (282, .arr 34 9 (List.map GBagEvent.lv v41))] rfl ?_ ?_
    ·refine sMa rfl ?_
     refine sMa rfl ?_
     refine sMp rfl ?_
     refine sMa rfl ?_
     refine sN (oLnA (f := GBagEvent.lv) te25 rfl rfl ?_)
     refine sN (oCM (args := [.ptr 7 0, .I (v36.length : Int)]) (ml := [(7, .box [.L r37.2.L, .I r37.2.At])]) (ml' := [(7, .box [.L r39.2.L, .I r39.2.At])]) rfl isF14 rfl (sbR (sbR sbN)) (GTape_Next_ok hr39) (mC rfl mN) (newI rfl newN) rfl ?_)
     refine sN (oIxA (f := GBagEvent.lv) te25 tk34 ts34 rfl rfl rfl hx40 ?_)
     refine sN (oLdEA (f := GBagEvent.lv) rfl rfl (idxOk hx40).2 rfl rfl tk34 ta34 ts34 rfl rfl ?_)
     refine sN (oBS (f := GBagEvent.lv) (ys := [x40]) te25 tr34 ts34 rfl rfl rfl GBagEvent.ok ?_)
     refine sN (oAp (f := GBagEvent.lv) te25 tr34 ts34 rfl rfl (prN rfl) rfl hv41 ?_)
     refine sAa rfl ?_
     exact s0 (Wk.eq rfl rfl rfl rfl)
    refine blockN ?_
    refine thenN ?_
    refine LH.loneT [(0, .ptr 7 0), (2, .I p2), (7, .arr 282 (List.length v41)), (8, .arr 114 (List.length l21)), (9, .arr 115 (List.length l22)), (10, .I (i64 (n2 - 1)))] [(7, .box [.L r39.2.L, .I r39.2.At]), (114, .arr 3 1 (List.map LV.I l21)), (115, .arr 3 1 (List.map LV.I l22)), (282, .arr 34 9 (List.map GBagEvent.lv v41))] rfl ?_ ?_
    ·refine sMi rfl ?_
     refine sN (oSub rfl rfl ?_)
     refine sAi rfl ?_
     exact s0 (Wk.eq rfl rfl rfl rfl)
    exact roundI ⟨(i64 (n2 - 1)), r39.2.L, r39.2.At, l21, l22, v41, hrec1 ▸ h, rfl, rfl⟩ (Wk.eq rfl rfl rfl rfl)
   replace h := iteF h hc38
   refine LH.skip ?_
   refine blockN ?_
   refine thenN ?_
   refine LH.loneT [(0, .ptr 7 0), (2, .I p2), (7, .arr 282 (List.length v36)), (8, .arr 114 (List.length l21)), (9, .arr 115 (List.length l22)), (10, .I (i64 (n2 - 1)))] [(7, .box [.L r37.2.L, .I r37.2.At]), (114, .arr 3 1 (List.map LV.I l21)), (115, .arr 3 1 (List.map LV.I l22)), (282, .arr 34 9 (List.map GBagEvent.lv v36))] rfl ?_ ?_
   ·refine sMi rfl ?_
    refine sN (oSub rfl rfl ?_)
    refine sAi rfl ?_
    exact s0 (Wk.eq rfl rfl rfl rfl)
   exact roundI ⟨(i64 (n2 - 1)), r37.2.L, r37.2.At, l21, l22, v36, hrec1 ▸ h, rfl, rfl⟩ (Wk.eq rfl rfl rfl rfl)
  replace h := iteF h hc8
  refine LH.exit ?_
  refine thenX ?_
  refine roundX ?_
  refine blockH ?_
  refine thenN ?_
  refine LH.wk ((Wk.trans (Wk.eq (el := [(7, .arr 282 (List.length l7))]) (ml := [(7, .box [.L l3, .I n4]), (282, .arr 34 9 (List.map GBagEvent.lv l7))]) rfl rfl rfl rfl) (Wk.trans (Wk.frzL (f := GBagEvent.lv) (el' := [(7, .lst 9 (List.map GBagEvent.lv l7))]) 282 34 9 l7 rfl rfl (prN rfl) (fZ fN)) (Wk.eq (el := [(7, .lst 9 (List.map GBagEvent.lv l7))]) (ml := [(7, .box [.L l3, .I n4])]) rfl rfl rfl rfl)))) ?_
  refine LH.seqT [(6, .lst 9 (List.map GBagEvent.lv l7))] [(7, .box [.L l3, .I n4])] rfl ?_ ?_
  ·refine sMl rfl ?_
   refine sAl rfl ?_
   exact s0 (Wk.eq rfl rfl rfl rfl)
  refine LH.ret ?_
  obtain rfl := Option.some.inj h
  exact retE (congrArg Array.toList Try.results10) (lrT rfl (lr0 ⟨memN (mC rfl mN), rfl, prK rfl, Sub.rfl⟩))

theorem law17_CustodyHolder_ok {F : Nat} {p0 : List Int} {r : Bool} (h : law17_CustodyHolder F p0 = some r) : LCall Try.prog 5 [.L p0] (Mem.of []) (.bool r) (Mem.of []) := by
  unfold law17_CustodyHolder at h
  refine bodyT Try.func5 rfl (by rw [Try.ntmps5]; exact Nat.le_of_ble_eq_true rfl) ?_
  refine LH.wk (Wk.eq (el := [(0, .L p0)]) (ml := []) rfl rfl rfl rfl) ?_
  refine LH.seqT [(0, .L p0)] [] rfl ?_ ?_
  ·refine sAb rfl ?_
   exact s0 (Wk.eq rfl rfl rfl rfl)
  obtain ⟨r1, hr1, h⟩ := bindS h
  obtain ⟨r2, hr2, h⟩ := bindS h
  refine LH.seqT [(3, .lst 9 (List.map GBagEvent.lv r2.1))] [] rfl ?_ ?_
  ·refine sMl rfl ?_
   refine sN (oCM (args := [.L p0]) (ml := []) (ml' := [(7, .box [.L r1.L, .I r1.At])]) rfl isF9 rfl (sbR sbN) (make_New_ok hr1) mN (newF rfl newN) rfl ?_)
   refine sN (oCM (args := [.ptr 7 0, .I 14, .I 6]) (ml := [(7, .box [.L r1.L, .I r1.At])]) (ml' := [(7, .box [.L r2.2.L, .I r2.2.At])]) rfl isF10 rfl (sbR (sbR (sbR sbN))) (GTape_BagEvents_ok hr2) (mC rfl mN) (newI rfl newN) rfl ?_)
   refine sAl rfl ?_
   exact s0 (Wk.eq rfl rfl rfl rfl)
  obtain ⟨r3, hr3, h⟩ := bindS h
  refine LH.seqT [(3, .lst 9 (List.map GBagEvent.lv r2.1)), (4, .lst 6 (List.map GBag.lv r3.1)), (5, .lst 3 (List.map GRefusal.lv r3.2.1)), (6, .I r3.2.2)] [] rfl ?_ ?_
  ·refine sMl rfl ?_
   refine sN (oCP (args := [.lst 9 (List.map GBagEvent.lv r2.1), .I 1000000]) rfl isF18 rfl (sbR (sbR sbN)) (custody_Fold_ok hr3) rfl ?_)
   refine sMt rfl ?_
   refine sN (oEx rfl rfl ?_)
   refine sN (oEx rfl rfl ?_)
   refine sN (oEx rfl rfl ?_)
   refine sAl rfl ?_
   refine sAl rfl ?_
   refine sAi rfl ?_
   exact s0 (Wk.eq rfl rfl rfl rfl)
  obtain ⟨r4, hr4, h⟩ := bindS h
  refine LH.seqT [(4, .lst 6 (List.map GBag.lv r3.1)), (5, .lst 3 (List.map GRefusal.lv r3.2.1)), (6, .I r3.2.2), (7, .lst 9 (List.map GBagEvent.lv r4.1)), (8, .I r4.2)] [] rfl ?_ ?_
  ·refine sMl rfl ?_
   refine sN (oCP (args := [.lst 9 (List.map GBagEvent.lv r2.1)]) rfl isF11 rfl (sbR sbN) (custody_Canonical_ok hr4) rfl ?_)
   refine sMt rfl ?_
   refine sN (oEx rfl rfl ?_)
   refine sN (oEx rfl rfl ?_)
   refine sAl rfl ?_
   refine sAi rfl ?_
   exact s0 (Wk.eq rfl rfl rfl rfl)
  refine LH.seq ?_
  refine LH.seqT [(4, .lst 6 (List.map GBag.lv r3.1)), (5, .lst 3 (List.map GRefusal.lv r3.2.1)), (7, .lst 9 (List.map GBagEvent.lv r4.1)), (33, .bool ((r3.2.2 != 0) || (r4.2 != 0)))] [] rfl ?_ ?_
  ·refine sMi rfl ?_
   refine sN (oNe rfl rfl ?_)
   refine sMb rfl ?_
   by_cases hb6 : (r3.2.2 != 0) = true
   ·refine sF rfl rfl hb6 ?_
    refine sF rfl rfl hb6 ?_
    refine sN (oPkT (congrArg LV.bool hb6) (v := (.bool _)) rfl ?_)
    exact s0 (Wk.to (eC rfl (eC rfl (eC rfl (eC (congrArg LV.bool (orT hb6)) eN)))) mN rfl (prK rfl))
   ·replace hb6 := bF hb6
    refine sT rfl (congrArg LV.bool hb6) (oM (v := (.int _ _)) rfl ?_)
    refine sT rfl (congrArg LV.bool hb6) (oNe rfl rfl ?_)
    refine sN (oPkF (congrArg LV.bool hb6) (v := (.bool _)) rfl ?_)
    exact s0 (Wk.to (eC rfl (eC rfl (eC rfl (eC (congrArg LV.bool (orF hb6)) eN)))) mN rfl (prK rfl))
  refine LH.cond (t := ((r3.2.2 != 0) || (r4.2 != 0))) rfl (fun hc7 => ?_) (fun hc7 => ?_)
  ·replace h := iteT h hc7
   refine LH.seqT [(2, .bool false)] [] rfl ?_ ?_
   ·refine sAb rfl ?_
    exact s0 (Wk.eq rfl rfl rfl rfl)
   refine LH.ret ?_
   refine thenR ?_
   obtain rfl := Option.some.inj h
   exact retE (congrArg Array.toList Try.results5) (lrT rfl (lr0 ⟨memN mN, rfl, prK rfl, Sub.rfl⟩))
  replace h := iteF h hc7
  refine LH.skip ?_
  refine thenN ?_
  refine LH.wk (Wk.eq (el := [(4, .lst 6 (List.map GBag.lv r3.1)), (5, .lst 3 (List.map GRefusal.lv r3.2.1)), (7, .lst 9 (List.map GBagEvent.lv r4.1))]) (ml := []) rfl rfl rfl rfl) ?_
  refine LH.seq ?_
  refine LH.seqT [(4, .lst 6 (List.map GBag.lv r3.1)), (5, .lst 3 (List.map GRefusal.lv r3.2.1)), (7, .lst 9 (List.map GBagEvent.lv r4.1)), (9, .I 0)] [] rfl ?_ ?_
  ·refine sAi rfl ?_
   exact s0 (Wk.eq rfl rfl rfl rfl)
  refine LH.block ?_
  refine LH.loop (fun n e m => ∃ (n8 : Int), law17_CustodyHolder_L1 F r3 r4 n n8 = some r ∧ e = Env.of [(4, .lst 6 (List.map GBag.lv r3.1)), (5, .lst 3 (List.map GRefusal.lv r3.2.1)), (7, .lst 9 (List.map GBagEvent.lv r4.1)), (9, .I n8)] ∧ m = Mem.of []) F ⟨0, h, rfl, rfl⟩ ?_
  clear h
  rintro n e m ⟨n8, h, rfl, rfl⟩
  rcases n with _ | n
  · cases (show Option.none = some _ from h)
  obtain ⟨rec1, hrec1⟩ : ∃ f, f = law17_CustodyHolder_L1 F r3 r4 n := ⟨_, rfl⟩
  replace h : law17_CustodyHolder_L1_B F r3 r4 rec1 n8 = some r := hrec1 ▸ h
  unfold law17_CustodyHolder_L1_B at h
  refine LH.seq ?_
  refine LH.seqT [(4, .lst 6 (List.map GBag.lv r3.1)), (5, .lst 3 (List.map GRefusal.lv r3.2.1)), (7, .lst 9 (List.map GBagEvent.lv r4.1)), (9, .I n8), (37, .bool (decide (n8 < (r3.1.length : Int))))] [] rfl ?_ ?_
  ·refine sMi rfl ?_
   refine sMl rfl ?_
   refine sN (oLnL (f := GBag.lv) te39 rfl ?_)
   refine sN (oLt rfl rfl ?_)
   exact s0 (Wk.eq rfl rfl rfl rfl)
  refine LH.cond (t := (decide (n8 < (r3.1.length : Int)))) rfl (fun hc9 => ?_) (fun hc9 => ?_)
  ·replace h := iteT h hc9
   refine LH.skip ?_
   refine thenN ?_
   refine LH.wk (Wk.eq (el := [(4, .lst 6 (List.map GBag.lv r3.1)), (5, .lst 3 (List.map GRefusal.lv r3.2.1)), (7, .lst 9 (List.map GBagEvent.lv r4.1)), (9, .I n8)]) (ml := []) rfl rfl rfl rfl) ?_
   refine LH.seq ?_
   refine LH.block ?_
   refine LH.seqT [(4, .lst 6 (List.map GBag.lv r3.1)), (5, .lst 3 (List.map GRefusal.lv r3.2.1)), (7, .lst 9 (List.map GBagEvent.lv r4.1)), (9, .I n8), (10, .I (-1))] [] rfl ?_ ?_
   ·refine sAi rfl ?_
    exact s0 (Wk.eq rfl rfl rfl rfl)
   refine LH.seq ?_
   refine LH.seqT [(4, .lst 6 (List.map GBag.lv r3.1)), (5, .lst 3 (List.map GRefusal.lv r3.2.1)), (7, .lst 9 (List.map GBagEvent.lv r4.1)), (9, .I n8), (10, .I (-1)), (11, .I 0)] [] rfl ?_ ?_
   ·refine sAi rfl ?_
    exact s0 (Wk.eq rfl rfl rfl rfl)
   refine LH.block ?_
   refine LH.loop (fun n e m => ∃ (n10 : Int) (n11 : Int), law17_CustodyHolder_L2 rec1 F r3 r4 n8 n n10 n11 = some r ∧ e = Env.of [(4, .lst 6 (List.map GBag.lv r3.1)), (5, .lst 3 (List.map GRefusal.lv r3.2.1)), (7, .lst 9 (List.map GBagEvent.lv r4.1)), (9, .I n8), (10, .I n10), (11, .I n11)] ∧ m = Mem.of []) F ⟨(-1), 0, h, rfl, rfl⟩ ?_
   clear h
   rintro n e m ⟨n10, n11, h, rfl, rfl⟩
   rcases n with _ | n
   · cases (show Option.none = some _ from h)
   obtain ⟨rec2, hrec2⟩ : ∃ f, f = law17_CustodyHolder_L2 rec1 F r3 r4 n8 n := ⟨_, rfl⟩
   replace h : law17_CustodyHolder_L2_B rec1 F r3 r4 n8 rec2 n10 n11 = some r := hrec2 ▸ h
   unfold law17_CustodyHolder_L2_B at h
   refine LH.seq ?_
   refine LH.seqT [(4, .lst 6 (List.map GBag.lv r3.1)), (5, .lst 3 (List.map GRefusal.lv r3.2.1)), (7, .lst 9 (List.map GBagEvent.lv r4.1)), (9, .I n8), (10, .I n10), (11, .I n11), (43, .bool (decide (n11 < (r4.1.length : Int))))] [] rfl ?_ ?_
   ·refine sMi rfl ?_
    refine sMl rfl ?_
    refine sN (oLnL (f := GBagEvent.lv) te25 rfl ?_)
    refine sN (oLt rfl rfl ?_)
    exact s0 (Wk.eq rfl rfl rfl rfl)
   refine LH.cond (t := (decide (n11 < (r4.1.length : Int)))) rfl (fun hc12 => ?_) (fun hc12 => ?_)
   ·replace h := iteT h hc12
    refine LH.skip ?_
    refine thenN ?_
    refine LH.wk (Wk.eq (el := [(4, .lst 6 (List.map GBag.lv r3.1)), (5, .lst 3 (List.map GRefusal.lv r3.2.1)), (7, .lst 9 (List.map GBagEvent.lv r4.1)), (9, .I n8), (10, .I n10), (11, .I n11)]) (ml := []) rfl rfl rfl rfl) ?_
    refine LH.seq ?_
    refine LH.block ?_
    obtain ⟨x13, hx13, h⟩ := bindS h
    obtain ⟨x14, hx14, h⟩ := bindS h
    refine LH.seqJM mixed [] [0, 0, 0, 0, 0, 0, 0, 0, 0, 0, 0, 0] [(4, .lst 6 (List.map GBag.lv r3.1)), (5, .lst 3 (List.map GRefusal.lv r3.2.1)), (7, .lst 9 (List.map GBagEvent.lv r4.1)), (9, .I n8), (10, .I n10), (11, .I n11), (12, .bool (x13.Bag != x14.Bag))] [] rfl rfl (by kernel_rfl) ?_ ?_
    ·refine mN0 (oM (v := (.lst _ _)) rfl ⟨rfl, ?_⟩)
     refine mN0 (oM (v := (.int _ _)) rfl ⟨rfl, ?_⟩)
     refine mN0 (oIx (f := GBagEvent.lv) te25 tk34 ts34 rfl rfl GBagEvent.ok hx13 rfl ⟨rfl, ?_⟩)
     refine mN0 (oFaS tf34_2 tk3 ts3 rfl rfl rfl ⟨rfl, ?_⟩)
     refine mN0 (oLd rfl tk3 ta3 ⟨rfl, ?_⟩)
     refine mN0 (oM (v := (.lst _ _)) rfl ⟨rfl, ?_⟩)
     refine mN0 (oM (v := (.int _ _)) rfl ⟨rfl, ?_⟩)
     refine mN0 (oIx (f := GBag.lv) te39 tk46 ts46 rfl rfl GBag.ok hx14 rfl ⟨rfl, ?_⟩)
     refine mN0 (oFaS tf46_0 tk3 ts3 rfl rfl rfl ⟨rfl, ?_⟩)
     refine mN0 (oLd rfl tk3 ta3 ⟨rfl, ?_⟩)
     refine mN0 (oNe rfl rfl ⟨rfl, ?_⟩)
     refine mN0 (oA (v := (.bool _)) rfl ⟨rfl, ?_⟩)
     exact m0 (Wk.eq rfl rfl rfl rfl)
    refine LH.seq ?_
    refine LH.seqT [(4, .lst 6 (List.map GBag.lv r3.1)), (5, .lst 3 (List.map GRefusal.lv r3.2.1)), (7, .lst 9 (List.map GBagEvent.lv r4.1)), (9, .I n8), (10, .I n10), (11, .I n11), (12, .bool (x13.Bag != x14.Bag)), (13, .I 0)] [] rfl ?_ ?_
    ·refine sAi rfl ?_
     exact s0 (Wk.eq rfl rfl rfl rfl)
    refine LH.block ?_
    refine LH.loop (fun n e m => ∃ (b15 : Bool) (n16 : Int), law17_CustodyHolder_L3 rec2 r3 r4 n10 n11 n b15 n16 = some r ∧ e = Env.of [(4, .lst 6 (List.map GBag.lv r3.1)), (5, .lst 3 (List.map GRefusal.lv r3.2.1)), (7, .lst 9 (List.map GBagEvent.lv r4.1)), (9, .I n8), (10, .I n10), (11, .I n11), (12, .bool b15), (13, .I n16)] ∧ m = Mem.of []) F ⟨(x13.Bag != x14.Bag), 0, h, rfl, rfl⟩ ?_
    clear h
    rintro n e m ⟨b15, n16, h, rfl, rfl⟩
    rcases n with _ | n
    · cases (show Option.none = some _ from h)
    obtain ⟨rec3, hrec3⟩ : ∃ f, f = law17_CustodyHolder_L3 rec2 r3 r4 n10 n11 n := ⟨_, rfl⟩
    replace h : law17_CustodyHolder_L3_B rec2 r3 r4 n10 n11 rec3 b15 n16 = some r := hrec3 ▸ h
    unfold law17_CustodyHolder_L3_B at h
    refine LH.seq ?_
    refine LH.seqT [(4, .lst 6 (List.map GBag.lv r3.1)), (5, .lst 3 (List.map GRefusal.lv r3.2.1)), (7, .lst 9 (List.map GBagEvent.lv r4.1)), (9, .I n8), (10, .I n10), (11, .I n11), (12, .bool b15), (13, .I n16), (60, .bool (decide (n16 < (r3.2.1.length : Int))))] [] rfl ?_ ?_
    ·refine sMi rfl ?_
     refine sMl rfl ?_
     refine sN (oLnL (f := GRefusal.lv) te40 rfl ?_)
     refine sN (oLt rfl rfl ?_)
     exact s0 (Wk.eq rfl rfl rfl rfl)
    refine LH.cond (t := (decide (n16 < (r3.2.1.length : Int)))) rfl (fun hc17 => ?_) (fun hc17 => ?_)
    ·replace h := iteT h hc17
     refine LH.skip ?_
     refine thenN ?_
     refine LH.wk (Wk.eq (el := [(4, .lst 6 (List.map GBag.lv r3.1)), (5, .lst 3 (List.map GRefusal.lv r3.2.1)), (7, .lst 9 (List.map GBagEvent.lv r4.1)), (9, .I n8), (10, .I n10), (11, .I n11), (12, .bool b15), (13, .I n16)]) (ml := []) rfl rfl rfl rfl) ?_
     refine LH.seq ?_
     refine LH.block ?_
     obtain ⟨w19, hv, h⟩ := bindS h
     refine LH.loneTM mixed [] [0, 0, 0, 0, 0, 0, 0, 0, 0, 0, 0, 0, 0, 0, 0, 0, 0, 0, 0, 0, 0, 0, 0] [(4, .lst 6 (List.map GBag.lv r3.1)), (5, .lst 3 (List.map GRefusal.lv r3.2.1)), (7, .lst 9 (List.map GBagEvent.lv r4.1)), (9, .I n8), (10, .I n10), (11, .I n11), (12, .bool w19), (13, .I n16)] [] rfl rfl (by kernel_rfl) ?_ ?_
     ·refine mN0 (oM (v := (.bool _)) rfl ⟨rfl, ?_⟩)
      refine mN0 (oM (v := (.bool _)) rfl ⟨rfl, ?_⟩)
      by_cases hb20 : b15 = true
      ·replace hv := iteT hv hb20
       refine mF rfl rfl hb20 ?_
       refine mF rfl rfl hb20 ?_
       refine mF rfl rfl hb20 ?_
       refine mF rfl rfl hb20 ?_
       refine mF rfl rfl hb20 ?_
       refine mF rfl rfl hb20 ?_
       refine mF rfl rfl hb20 ?_
       refine mF rfl rfl hb20 ?_
       refine mF rfl rfl hb20 ?_
       refine mF rfl rfl hb20 ?_
       refine mF rfl rfl hb20 ?_
       refine mF rfl rfl hb20 ?_
       refine mF rfl rfl hb20 ?_
       refine mF rfl rfl hb20 ?_
       refine mF rfl rfl hb20 ?_
       refine mF rfl rfl hb20 ?_
       refine mF rfl rfl hb20 ?_
       refine mF rfl rfl hb20 ?_
       refine mF rfl rfl hb20 ?_
       refine mN0 (oPkT (congrArg LV.bool hb20) (v := (.bool _)) rfl ⟨rfl, ?_⟩)
       refine mN0 (oA (v := (.bool _)) rfl ⟨rfl, ?_⟩)
       obtain rfl := Option.some.inj hv
       exact m0 (Wk.eq rfl rfl rfl rfl)
      ·replace hb20 := bF hb20
       replace hv := iteF hv hb20
       refine mT rfl (congrArg LV.bool hb20) (mN0 (oM (v := (.lst _ _)) rfl ⟨rfl, ?_⟩))
       refine mT rfl (congrArg LV.bool hb20) (mN0 (oM (v := (.int _ _)) rfl ⟨rfl, ?_⟩))
       obtain ⟨x21, hx21, hv⟩ := bindS hv
       refine mT rfl (congrArg LV.bool hb20) (mN0 (oIx (f := GRefusal.lv) te40 tk50 ts50 rfl rfl GRefusal.ok hx21 rfl ⟨rfl, ?_⟩))
       refine mT rfl (congrArg LV.bool hb20) (mN0 (oFaS tf50_0 tk48 ts48 rfl rfl rfl ⟨rfl, ?_⟩))
       refine mT rfl (congrArg LV.bool hb20) (mN0 (oLdA rfl tk48 ta48 ts48 rfl rfl ⟨rfl, ?_⟩))
       refine mT rfl (congrArg LV.bool hb20) (mN0 (oM (v := (.lst _ _)) rfl ⟨rfl, ?_⟩))
       refine mT rfl (congrArg LV.bool hb20) (mN0 (oM (v := (.int _ _)) rfl ⟨rfl, ?_⟩))
       obtain ⟨x22, hx22, hv⟩ := bindS hv
       refine mT rfl (congrArg LV.bool hb20) (mN0 (oIx (f := GBagEvent.lv) te25 tk34 ts34 rfl rfl GBagEvent.ok hx22 rfl ⟨rfl, ?_⟩))
       refine mT rfl (congrArg LV.bool hb20) (mN0 (oFaS tf34_0 tk32 ts32 rfl rfl rfl ⟨rfl, ?_⟩))
       refine mT rfl (congrArg LV.bool hb20) (mN0 (oFaS tf32_1 tk3 ts3 rfl rfl rfl ⟨rfl, ?_⟩))
       refine mT rfl (congrArg LV.bool hb20) (mN0 (oLd rfl tk3 ta3 ⟨rfl, ?_⟩))
       refine mT rfl (congrArg LV.bool hb20) (mN0 (oM (v := (.lst _ _)) rfl ⟨rfl, ?_⟩))
       refine mT rfl (congrArg LV.bool hb20) (mN0 (oM (v := (.int _ _)) rfl ⟨rfl, ?_⟩))
       obtain ⟨x23, hx23, hv⟩ := bindS hv
       refine mT rfl (congrArg LV.bool hb20) (mN0 (oIx (f := GBagEvent.lv) te25 tk34 ts34 rfl rfl GBagEvent.ok hx23 rfl ⟨rfl, ?_⟩))
       refine mT rfl (congrArg LV.bool hb20) (mN0 (oFaS tf34_0 tk32 ts32 rfl rfl rfl ⟨rfl, ?_⟩))
       refine mT rfl (congrArg LV.bool hb20) (mN0 (oFaS tf32_2 tk3 ts3 rfl rfl rfl ⟨rfl, ?_⟩))
       refine mT rfl (congrArg LV.bool hb20) (mN0 (oLd rfl tk3 ta3 ⟨rfl, ?_⟩))
       refine mT rfl (congrArg LV.bool hb20) (mN0 (oBd (vs := [(0, .I x22.Stamp.Source), (1, .I x23.Stamp.Seq)]) tu48 tz48 rfl (lf tf48_0 ts3 tk3 rfl rfl rfl (lf tf48_1 ts3 tk3 rfl rfl rfl lf0)) ⟨rfl, ?_⟩))
       refine mT rfl (congrArg LV.bool hb20) (mN0 (oEqA rfl rfl (ae48 x21.Event (GIdentity.mk x22.Stamp.Source x23.Stamp.Seq)) ⟨rfl, ?_⟩))
       refine mN0 (oPkF (congrArg LV.bool hb20) (v := (.bool _)) rfl ⟨rfl, ?_⟩)
       refine mN0 (oA (v := (.bool _)) rfl ⟨rfl, ?_⟩)
       obtain rfl := Option.some.inj hv
       exact m0 (Wk.eq rfl rfl rfl rfl)
     clear hv
     refine blockN ?_
     refine thenN ?_
     refine LH.loneT [(4, .lst 6 (List.map GBag.lv r3.1)), (5, .lst 3 (List.map GRefusal.lv r3.2.1)), (7, .lst 9 (List.map GBagEvent.lv r4.1)), (9, .I n8), (10, .I n10), (11, .I n11), (12, .bool w19), (13, .I (i64 (n16 + 1)))] [] rfl ?_ ?_
     ·refine sMi rfl ?_
      refine sN (oAdd rfl rfl ?_)
      refine sAi rfl ?_
      exact s0 (Wk.eq rfl rfl rfl rfl)
     exact roundI ⟨w19, (i64 (n16 + 1)), hrec3 ▸ h, rfl, rfl⟩ (Wk.eq rfl rfl rfl rfl)
    replace h := iteF h hc17
    refine LH.exit ?_
    refine thenX ?_
    refine roundX ?_
    refine blockH ?_
    refine thenN ?_
    refine LH.wk (Wk.eq (el := [(4, .lst 6 (List.map GBag.lv r3.1)), (5, .lst 3 (List.map GRefusal.lv r3.2.1)), (7, .lst 9 (List.map GBagEvent.lv r4.1)), (9, .I n8), (10, .I n10), (11, .I n11), (12, .bool b15)]) (ml := []) rfl rfl rfl rfl) ?_
    refine LH.mid (fun e m => ∃ (n24 : Int), law17_CustodyHolder_J4 rec2 r4 n11 b15 n24 = some r ∧ Wk (fun id => Mem.of [] id ≠ .none) e m (Env.of [(4, .lst 6 (List.map GBag.lv r3.1)), (5, .lst 3 (List.map GRefusal.lv r3.2.1)), (7, .lst 9 (List.map GBagEvent.lv r4.1)), (9, .I n8), (10, .I n24), (11, .I n11), (12, .bool b15)]) (Mem.of [])) ?_ ?_
    ·obtain ⟨w32, hv, h⟩ := bindS h
     refine LH.seqT [(4, .lst 6 (List.map GBag.lv r3.1)), (5, .lst 3 (List.map GRefusal.lv r3.2.1)), (7, .lst 9 (List.map GBagEvent.lv r4.1)), (9, .I n8), (10, .I n10), (11, .I n11), (12, .bool b15), (94, .bool w32)] [] rfl ?_ ?_
     ·refine sMb rfl ?_
      refine sN (oNot rfl ?_)
      refine sMb rfl ?_
      by_cases hb33 : (!b15) = true
      ·replace hv := iteT hv hb33
       refine sT rfl (congrArg LV.bool hb33) (oM (v := (.lst _ _)) rfl ?_)
       refine sT rfl (congrArg LV.bool hb33) (oM (v := (.int _ _)) rfl ?_)
       obtain ⟨x34, hx34, hv⟩ := bindS hv
       refine sT rfl (congrArg LV.bool hb33) (oIx (f := GBagEvent.lv) te25 tk34 ts34 rfl rfl GBagEvent.ok hx34 rfl ?_)
       refine sT rfl (congrArg LV.bool hb33) (oFaS tf34_1 tk3 ts3 rfl rfl rfl ?_)
       refine sT rfl (congrArg LV.bool hb33) (oLd rfl tk3 ta3 ?_)
       refine sT rfl (congrArg LV.bool hb33) (oEq rfl rfl ?_)
       refine sN (oPkT (congrArg LV.bool hb33) (v := (.bool _)) rfl ?_)
       obtain rfl := Option.some.inj hv
       exact s0 (Wk.eq rfl rfl rfl rfl)
      ·replace hb33 := bF hb33
       replace hv := iteF hv hb33
       refine sF rfl rfl hb33 ?_
       refine sF rfl rfl hb33 ?_
       refine sF rfl rfl hb33 ?_
       refine sF rfl rfl hb33 ?_
       refine sF rfl rfl hb33 ?_
       refine sF rfl rfl hb33 ?_
       refine sN (oPkF (congrArg LV.bool hb33) (v := (.bool _)) rfl ?_)
       obtain rfl := Option.some.inj hv
       exact s0 (Wk.eq rfl rfl rfl rfl)
     clear hv
     refine LH.cond (t := w32) rfl (fun hc35 => ?_) (fun hc35 => ?_)
     ·replace h := iteT h hc35
      obtain ⟨x36, hx36, h⟩ := bindS h
      refine LH.loneT [(4, .lst 6 (List.map GBag.lv r3.1)), (5, .lst 3 (List.map GRefusal.lv r3.2.1)), (7, .lst 9 (List.map GBagEvent.lv r4.1)), (9, .I n8), (10, .I x36.From), (11, .I n11), (12, .bool b15)] [] rfl ?_ ?_
      ·refine sMl rfl ?_
       refine sMi rfl ?_
       refine sN (oIx (f := GBagEvent.lv) te25 tk34 ts34 rfl rfl GBagEvent.ok hx36 rfl ?_)
       refine sN (oFaS tf34_4 tk3 ts3 rfl rfl rfl ?_)
       refine sN (oLd rfl tk3 ta3 ?_)
       refine sAi rfl ?_
       exact s0 (Wk.eq rfl rfl rfl rfl)
      exact thenN ⟨x36.From, h, Wk.eq rfl rfl rfl rfl⟩
     replace h := iteF h hc35
     refine LH.skip ?_
     exact thenN ⟨n10, h, Wk.eq rfl rfl rfl rfl⟩
    clear h
    rintro e m ⟨n24, h, hw⟩
    refine LH.wk hw ?_
    clear hw
    unfold law17_CustodyHolder_J4 at h
    obtain ⟨w26, hv, h⟩ := bindS h
    refine LH.seqT [(4, .lst 6 (List.map GBag.lv r3.1)), (5, .lst 3 (List.map GRefusal.lv r3.2.1)), (7, .lst 9 (List.map GBagEvent.lv r4.1)), (9, .I n8), (10, .I n24), (11, .I n11), (109, .bool w26)] [] rfl ?_ ?_
    ·refine sMb rfl ?_
     refine sN (oNot rfl ?_)
     refine sMb rfl ?_
     by_cases hb27 : (!b15) = true
     ·replace hv := iteT hv hb27
      refine sT rfl (congrArg LV.bool hb27) (oM (v := (.lst _ _)) rfl ?_)
      refine sT rfl (congrArg LV.bool hb27) (oM (v := (.int _ _)) rfl ?_)
      obtain ⟨x28, hx28, hv⟩ := bindS hv
      refine sT rfl (congrArg LV.bool hb27) (oIx (f := GBagEvent.lv) te25 tk34 ts34 rfl rfl GBagEvent.ok hx28 rfl ?_)
      refine sT rfl (congrArg LV.bool hb27) (oFaS tf34_1 tk3 ts3 rfl rfl rfl ?_)
      refine sT rfl (congrArg LV.bool hb27) (oLd rfl tk3 ta3 ?_)
      refine sT rfl (congrArg LV.bool hb27) (oEq rfl rfl ?_)
      refine sN (oPkT (congrArg LV.bool hb27) (v := (.bool _)) rfl ?_)
      obtain rfl := Option.some.inj hv
      exact s0 (Wk.eq rfl rfl rfl rfl)
     ·replace hb27 := bF hb27
      replace hv := iteF hv hb27
      refine sF rfl rfl hb27 ?_
      refine sF rfl rfl hb27 ?_
      refine sF rfl rfl hb27 ?_
      refine sF rfl rfl hb27 ?_
      refine sF rfl rfl hb27 ?_
      refine sF rfl rfl hb27 ?_
      refine sN (oPkF (congrArg LV.bool hb27) (v := (.bool _)) rfl ?_)
      obtain rfl := Option.some.inj hv
      exact s0 (Wk.eq rfl rfl rfl rfl)
    clear hv
    refine LH.cond (t := w26) rfl (fun hc29 => ?_) (fun hc29 => ?_)
    ·replace h := iteT h hc29
     obtain ⟨x30, hx30, h⟩ := bindS h
     refine LH.loneT [(4, .lst 6 (List.map GBag.lv r3.1)), (5, .lst 3 (List.map GRefusal.lv r3.2.1)), (7, .lst 9 (List.map GBagEvent.lv r4.1)), (9, .I n8), (10, .I x30.To), (11, .I n11)] [] rfl ?_ ?_
     ·refine sMl rfl ?_
      refine sMi rfl ?_
      refine sN (oIx (f := GBagEvent.lv) te25 tk34 ts34 rfl rfl GBagEvent.ok hx30 rfl ?_)
      refine sN (oFaS tf34_5 tk3 ts3 rfl rfl rfl ?_)
      refine sN (oLd rfl tk3 ta3 ?_)
      refine sAi rfl ?_
      exact s0 (Wk.eq rfl rfl rfl rfl)
     refine blockN ?_
     refine thenN ?_
     refine LH.loneT [(4, .lst 6 (List.map GBag.lv r3.1)), (5, .lst 3 (List.map GRefusal.lv r3.2.1)), (7, .lst 9 (List.map GBagEvent.lv r4.1)), (9, .I n8), (10, .I x30.To), (11, .I (i64 (n11 + 1)))] [] rfl ?_ ?_
     ·refine sMi rfl ?_
      refine sN (oAdd rfl rfl ?_)
      refine sAi rfl ?_
      exact s0 (Wk.eq rfl rfl rfl rfl)
     exact roundI ⟨x30.To, (i64 (n11 + 1)), hrec2 ▸ h, rfl, rfl⟩ (Wk.eq rfl rfl rfl rfl)
    replace h := iteF h hc29
    refine LH.skip ?_
    refine blockN ?_
    refine thenN ?_
    refine LH.loneT [(4, .lst 6 (List.map GBag.lv r3.1)), (5, .lst 3 (List.map GRefusal.lv r3.2.1)), (7, .lst 9 (List.map GBagEvent.lv r4.1)), (9, .I n8), (10, .I n24), (11, .I (i64 (n11 + 1)))] [] rfl ?_ ?_
    ·refine sMi rfl ?_
     refine sN (oAdd rfl rfl ?_)
     refine sAi rfl ?_
     exact s0 (Wk.eq rfl rfl rfl rfl)
    exact roundI ⟨n24, (i64 (n11 + 1)), hrec2 ▸ h, rfl, rfl⟩ (Wk.eq rfl rfl rfl rfl)
   replace h := iteF h hc12
   refine LH.exit ?_
   refine thenX ?_
   refine roundX ?_
   refine blockH ?_
   refine thenN ?_
   obtain ⟨x37, hx37, h⟩ := bindS h
   refine LH.seqT [(4, .lst 6 (List.map GBag.lv r3.1)), (5, .lst 3 (List.map GRefusal.lv r3.2.1)), (7, .lst 9 (List.map GBagEvent.lv r4.1)), (9, .I n8), (121, .bool (n10 != x37.Holder))] [] rfl ?_ ?_
   ·refine sMi rfl ?_
    refine sMl rfl ?_
    refine sMi rfl ?_
    refine sN (oIx (f := GBag.lv) te39 tk46 ts46 rfl rfl GBag.ok hx37 rfl ?_)
    refine sN (oFaS tf46_1 tk3 ts3 rfl rfl rfl ?_)
    refine sN (oLd rfl tk3 ta3 ?_)
    refine sN (oNe rfl rfl ?_)
    exact s0 (Wk.eq rfl rfl rfl rfl)
   refine LH.cond (t := (n10 != x37.Holder)) rfl (fun hc38 => ?_) (fun hc38 => ?_)
   ·replace h := iteT h hc38
    refine LH.seqT [(2, .bool false)] [] rfl ?_ ?_
    ·refine sAb rfl ?_
     exact s0 (Wk.eq rfl rfl rfl rfl)
    refine LH.ret ?_
    refine blockR ?_
    refine thenR ?_
    refine roundR ?_
    refine blockR ?_
    refine thenR ?_
    obtain rfl := Option.some.inj h
    exact retE (congrArg Array.toList Try.results5) (lrT rfl (lr0 ⟨memN mN, rfl, prK rfl, Sub.rfl⟩))
   replace h := iteF h hc38
   refine LH.skip ?_
   refine blockN ?_
   refine thenN ?_
   refine LH.loneT [(4, .lst 6 (List.map GBag.lv r3.1)), (5, .lst 3 (List.map GRefusal.lv r3.2.1)), (7, .lst 9 (List.map GBagEvent.lv r4.1)), (9, .I (i64 (n8 + 1)))] [] rfl ?_ ?_
   ·refine sMi rfl ?_
    refine sN (oAdd rfl rfl ?_)
    refine sAi rfl ?_
    exact s0 (Wk.eq rfl rfl rfl rfl)
   exact roundI ⟨(i64 (n8 + 1)), hrec1 ▸ h, rfl, rfl⟩ (Wk.eq rfl rfl rfl rfl)
  replace h := iteF h hc9
  refine LH.exit ?_
  refine thenX ?_
  refine roundX ?_
  refine blockH ?_
  refine thenN ?_
  obtain ⟨r39, hr39, h⟩ := bindS h
  refine LH.seqT [(2, .bool r39)] [] rfl ?_ ?_
  ·refine sN (oCP (args := []) rfl isF16 rfl sbN (law17_awake_ok hr39) rfl ?_)
   refine sAb rfl ?_
   exact s0 (Wk.eq rfl rfl rfl rfl)
  refine LH.ret ?_
  obtain rfl := Option.some.inj h
  exact retE (congrArg Array.toList Try.results5) (lrT rfl (lr0 ⟨memN mN, rfl, prK rfl, Sub.rfl⟩))

end Go.Proofs.Ytdjkbicmkbnjdaa
