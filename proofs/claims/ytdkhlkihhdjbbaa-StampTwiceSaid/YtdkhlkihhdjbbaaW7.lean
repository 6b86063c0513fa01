/- Walks, printed by program (gen.py): each function computes its plain function. -/
import Derived.Test.YtdkhlkihhdjbbaaW6
set_option linter.unusedVariables false
set_option linter.unusedSimpArgs false
set_option maxRecDepth 100000
namespace Go.Proofs.Ytdkhlkihhdjbbaa
open Go.L Go.Sh
theorem law02_StampAnyOrder_ok {F : Nat} {p0 : List Int} {r : Bool} (h : law02_StampAnyOrder F p0 = some r) : LCall Try.prog 7 [.lst 1 (List.map (LV.int .i64) p0)] (Mem.of []) (.bool r) (Mem.of []) := by
  unfold law02_StampAnyOrder at h
  refine bodyT Try.func7 rfl (by rw [Try.ntmps7]; exact Nat.le_of_ble_eq_true rfl) ?_
  refine LH.wk (Wk.to (el := [(0, .lst 1 (List.map (LV.int .i64) p0))]) (ml := []) (eC rfl eN) mN rfl (prK rfl)) ?_
  refine LH.seqT [(0, .lst 1 (List.map (LV.int .i64) p0))] [] rfl ?_ ?_
  · refine sN (oA (v := (.bool _)) rfl ?_)
    exact s0 (Wk.to (eC rfl eN) mN rfl (prK rfl))
  obtain ⟨r1, hr1, h⟩ := bindS h
  refine LH.seqT [(3, .ptr 7 0)] [(7, .box [.lst 1 (List.map (LV.int .i64) r1.L), .int .i64 r1.At])] rfl ?_ ?_
  · refine sN (oM (v := (.lst _ _)) rfl ?_)
    refine sN (oCM (args := [.lst 1 (List.map (LV.int .i64) p0)]) (ml := []) (ml' := [(7, .box [.lst 1 (List.map (LV.int .i64) r1.L), .int .i64 r1.At])]) rfl isF17 rfl (sbR sbN) (make_New_ok hr1) mN (newF rfl newN) rfl ?_)
    refine sN (oA (v := (.ptr _ _)) rfl ?_)
    exact s0 (Wk.to (eC rfl eN) (mC rfl mN) rfl (prK rfl))
  obtain ⟨r2, hr2, h⟩ := bindS h
  refine LH.seqT [(3, .ptr 7 0), (4, .lst 3 (List.map GStamp.lv r2.1)), (5, .lst 1 (List.map (LV.int .i64) r2.2.1))] [(7, .box [.lst 1 (List.map (LV.int .i64) r2.2.2.L), .int .i64 r2.2.2.At])] rfl ?_ ?_
  · refine sN (oM (v := (.ptr _ _)) rfl ?_)
    refine sN (oCM (args := [.ptr 7 0, .int .i64 10, .int .i64 8]) (ml := [(7, .box [.lst 1 (List.map (LV.int .i64) r1.L), .int .i64 r1.At])]) (ml' := [(7, .box [.lst 1 (List.map (LV.int .i64) r2.2.2.L), .int .i64 r2.2.2.At]), (145, .arr 23 3 (List.map GStamp.lv r2.1)), (149, .arr 3 1 (List.map (LV.int .i64) r2.2.1))]) rfl isF18 rfl (sbR (sbR (sbR sbN))) (law02_events_ok hr2) (mC rfl mN) (newI rfl (newF rfl (newF rfl newN))) rfl ?_)
    refine sN (oM (v := (.tup _)) rfl ?_)
    refine sN (oEx rfl rfl ?_)
    refine sN (oEx rfl rfl ?_)
    refine sN (oA (v := (.arr _ _)) rfl ?_)
    refine sN (oA (v := (.arr _ _)) rfl ?_)
    exact s0 ((Wk.trans (Wk.to (el := [(3, .ptr 7 0), (4, .arr 145 (List.length r2.1)), (5, .arr 149 (List.length r2.2.1))]) (ml := [(7, .box [.lst 1 (List.map (LV.int .i64) r2.2.2.L), .int .i64 r2.2.2.At]), (145, .arr 23 3 (List.map GStamp.lv r2.1)), (149, .arr 3 1 (List.map (LV.int .i64) r2.2.1))]) (eC rfl (eC rfl (eC rfl eN))) (mC rfl (mC rfl (mC rfl mN))) rfl (prK rfl)) (Wk.trans (Wk.frzL (f := GStamp.lv) (el' := [(3, .ptr 7 0), (4, .lst 3 (List.map GStamp.lv r2.1)), (5, .arr 149 (List.length r2.2.1))]) 145 23 3 r2.1 rfl rfl (prN rfl) (fK rfl (fZ (fK rfl fN)))) (Wk.trans (Wk.frzL (f := (LV.int .i64)) (el' := [(3, .ptr 7 0), (4, .lst 3 (List.map GStamp.lv r2.1)), (5, .lst 1 (List.map (LV.int .i64) r2.2.1))]) 149 3 1 r2.2.1 rfl rfl (prN rfl) (fK rfl (fK rfl (fZ fN)))) (Wk.to (eC rfl (eC rfl (eC rfl eN))) (mC rfl mN) rfl (prK rfl))))))
  obtain ⟨r3, hr3, h⟩ := bindS h
  refine LH.seqT [(4, .lst 3 (List.map GStamp.lv r2.1)), (5, .lst 1 (List.map (LV.int .i64) r2.2.1)), (6, .lst 1 (List.map (LV.int .i64) r3.1))] [] rfl ?_ ?_
  · refine sN (oM (v := (.ptr _ _)) rfl ?_)
    refine sN (oM (v := (.lst _ _)) rfl ?_)
    refine sN (oLnL (f := GStamp.lv) te31 rfl ?_)
    refine sN (oCM (args := [.ptr 7 0, .int .i64 (r2.1.length : Int)]) (ml := [(7, .box [.lst 1 (List.map (LV.int .i64) r2.2.2.L), .int .i64 r2.2.2.At])]) (ml' := [(7, .box [.lst 1 (List.map (LV.int .i64) r3.2.L), .int .i64 r3.2.At])]) rfl isF27 rfl (sbR (sbR sbN)) (GTape_Mixed_ok hr3) (mC rfl mN) (newI rfl newN) rfl ?_)
    refine sN (oA (v := (.lst _ _)) rfl ?_)
    exact s0 (Wk.to (eC rfl (eC rfl (eC rfl eN))) mN rfl (prK rfl))
  refine LH.seqT [(4, .lst 3 (List.map GStamp.lv r2.1)), (5, .lst 1 (List.map (LV.int .i64) r2.2.1)), (6, .lst 1 (List.map (LV.int .i64) r3.1)), (7, .nil)] [] rfl ?_ ?_
  · refine sN (oA (v := .nil) rfl ?_)
    exact s0 (Wk.to (eC rfl (eC rfl (eC rfl (eC rfl eN)))) mN rfl (prK rfl))
  refine LH.seqT [(4, .lst 3 (List.map GStamp.lv r2.1)), (5, .lst 1 (List.map (LV.int .i64) r2.2.1)), (6, .lst 1 (List.map (LV.int .i64) r3.1)), (7, .nil), (8, .nil)] [] rfl ?_ ?_
  · refine sN (oA (v := .nil) rfl ?_)
    exact s0 (Wk.to (eC rfl (eC rfl (eC rfl (eC rfl (eC rfl eN))))) mN rfl (prK rfl))
  refine LH.seq ?_
  refine LH.seqT [(4, .lst 3 (List.map GStamp.lv r2.1)), (5, .lst 1 (List.map (LV.int .i64) r2.2.1)), (6, .lst 1 (List.map (LV.int .i64) r3.1)), (7, .nil), (8, .nil), (9, .int .i64 0)] [] rfl ?_ ?_
  · refine sN (oA (v := (.int _ _)) rfl ?_)
    exact s0 (Wk.to (eC rfl (eC rfl (eC rfl (eC rfl (eC rfl (eC rfl eN)))))) mN rfl (prK rfl))
  refine LH.block ?_
  refine LH.wk ((Wk.trans (Wk.to (el := [(4, .lst 3 (List.map GStamp.lv r2.1)), (5, .lst 1 (List.map (LV.int .i64) r2.2.1)), (6, .lst 1 (List.map (LV.int .i64) r3.1)), (7, .nil), (8, .nil), (9, .int .i64 0)]) (ml := []) (eC rfl (eC rfl (eC rfl (eC rfl (eC rfl (eC rfl eN)))))) mN rfl (prK rfl)) (Wk.trans (Wk.to (el := [(4, .lst 3 (List.map GStamp.lv r2.1)), (5, .lst 1 (List.map (LV.int .i64) r2.2.1)), (6, .lst 1 (List.map (LV.int .i64) r3.1)), (7, .nil), (8, .nil), (9, .int .i64 0)]) (ml := []) (eC rfl (eC rfl (eC rfl (eC rfl (eC rfl (eC rfl eN)))))) mN rfl (prK rfl)) (Wk.trans (Wk.ownL (el' := [(4, .lst 3 (List.map GStamp.lv r2.1)), (5, .lst 1 (List.map (LV.int .i64) r2.2.1)), (6, .lst 1 (List.map (LV.int .i64) r3.1)), (7, .arr 141 (List.length ([] : List GStamp))), (8, .nil), (9, .int .i64 0)]) 141 23 3 rfl rfl (wK (wK (wK (wO (wK (wK wN))))))) (Wk.trans (Wk.to (el := [(4, .lst 3 (List.map GStamp.lv r2.1)), (5, .lst 1 (List.map (LV.int .i64) r2.2.1)), (6, .lst 1 (List.map (LV.int .i64) r3.1)), (7, .arr 141 (List.length ([] : List GStamp))), (8, .nil), (9, .int .i64 0)]) (ml := [(141, .arr 23 3 (List.map GStamp.lv ([] : List GStamp)))]) (eC rfl (eC rfl (eC rfl (eC rfl (eC rfl (eC rfl eN)))))) (mC rfl mN) rfl (prK rfl)) (Wk.trans (Wk.ownL (el' := [(4, .lst 3 (List.map GStamp.lv r2.1)), (5, .lst 1 (List.map (LV.int .i64) r2.2.1)), (6, .lst 1 (List.map (LV.int .i64) r3.1)), (7, .arr 141 (List.length ([] : List GStamp))), (8, .arr 151 (List.length ([] : List Int))), (9, .int .i64 0)]) 151 3 1 rfl rfl (wK (wK (wK (wK (wO (wK wN))))))) (Wk.to (el := [(4, .lst 3 (List.map GStamp.lv r2.1)), (5, .lst 1 (List.map (LV.int .i64) r2.2.1)), (6, .lst 1 (List.map (LV.int .i64) r3.1)), (7, .arr 141 (List.length ([] : List GStamp))), (8, .arr 151 (List.length ([] : List Int))), (9, .int .i64 0)]) (ml := [(141, .arr 23 3 (List.map GStamp.lv ([] : List GStamp))), (151, .arr 3 1 (List.map (LV.int .i64) ([] : List Int)))]) (eC rfl (eC rfl (eC rfl (eC rfl (eC rfl (eC rfl eN)))))) (mC rfl (mC rfl mN)) rfl (prK rfl)))))))) ?_
  refine LH.loop (fun n e m => ∃ (n4 : Int) (l5 : List GStamp) (l6 : List Int), law02_StampAnyOrder_L1 F r2 r3 n n4 l5 l6 = some r ∧ e = Env.of [(4, .lst 3 (List.map GStamp.lv r2.1)), (5, .lst 1 (List.map (LV.int .i64) r2.2.1)), (6, .lst 1 (List.map (LV.int .i64) r3.1)), (7, .arr 141 (List.length l5)), (8, .arr 151 (List.length l6)), (9, .int .i64 n4)] ∧ m = Mem.of [(141, .arr 23 3 (List.map GStamp.lv l5)), (151, .arr 3 1 (List.map (LV.int .i64) l6))]) F ⟨0, ([] : List GStamp), ([] : List Int), h, rfl, rfl⟩ ?_
  clear h
  rintro n e m ⟨n4, l5, l6, h, rfl, rfl⟩
  rcases n with _ | n
  · cases (show Option.none = some _ from h)
  obtain ⟨rec1, hrec1⟩ : ∃ f, f = law02_StampAnyOrder_L1 F r2 r3 n := ⟨_, rfl⟩
  replace h : law02_StampAnyOrder_L1_B F r2 r3 rec1 n4 l5 l6 = some r := hrec1 ▸ h
  unfold law02_StampAnyOrder_L1_B at h
  refine LH.seq ?_
  refine LH.seqT [(4, .lst 3 (List.map GStamp.lv r2.1)), (5, .lst 1 (List.map (LV.int .i64) r2.2.1)), (6, .lst 1 (List.map (LV.int .i64) r3.1)), (7, .arr 141 (List.length l5)), (8, .arr 151 (List.length l6)), (9, .int .i64 n4), (29, .bool (decide (n4 < (r3.1.length : Int))))] [(141, .arr 23 3 (List.map GStamp.lv l5)), (151, .arr 3 1 (List.map (LV.int .i64) l6))] rfl ?_ ?_
  · refine sN (oM (v := (.int _ _)) rfl ?_)
    refine sN (oM (v := (.lst _ _)) rfl ?_)
    refine sN (oLnL (f := (LV.int .i64)) te28 rfl ?_)
    refine sN (oLt rfl rfl ?_)
    exact s0 (Wk.to (eC rfl (eC rfl (eC rfl (eC rfl (eC rfl (eC rfl (eC rfl eN))))))) (mC rfl (mC rfl mN)) rfl (prK rfl))
  refine LH.cond (t := (decide (n4 < (r3.1.length : Int)))) rfl (fun hc7 => ?_) (fun hc7 => ?_)
  · replace h := iteT h hc7
    refine LH.skip ?_
    refine thenN ?_
    refine LH.wk (Wk.to (el := [(4, .lst 3 (List.map GStamp.lv r2.1)), (5, .lst 1 (List.map (LV.int .i64) r2.2.1)), (6, .lst 1 (List.map (LV.int .i64) r3.1)), (7, .arr 141 (List.length l5)), (8, .arr 151 (List.length l6)), (9, .int .i64 n4)]) (ml := [(141, .arr 23 3 (List.map GStamp.lv l5)), (151, .arr 3 1 (List.map (LV.int .i64) l6))]) (eC rfl (eC rfl (eC rfl (eC rfl (eC rfl (eC rfl eN)))))) (mC rfl (mC rfl mN)) rfl (prK rfl)) ?_
    refine LH.seq ?_
    refine LH.block ?_
    obtain ⟨x8, hx8, h⟩ := bindS h
    obtain ⟨x9, hx9, h⟩ := bindS h
    obtain ⟨v10, hv10, h⟩ := bindS h
    obtain ⟨x11, hx11, h⟩ := bindS h
    obtain ⟨x12, hx12, h⟩ := bindS h
    obtain ⟨v13, hv13, h⟩ := bindS h
    refine LH.loneTM mixed [] [0, 0, 0, 0, 0, 0, 0, 0, 0, 2, 0, 0, 0, 0, 0, 0, 0, 0, 0, 2, 0, 0] [(4, .lst 3 (List.map GStamp.lv r2.1)), (5, .lst 1 (List.map (LV.int .i64) r2.2.1)), (6, .lst 1 (List.map (LV.int .i64) r3.1)), (7, .arr 141 (List.length v10)), (8, .arr 151 (List.length v13)), (9, .int .i64 n4)] [(141, .arr 23 3 (List.map GStamp.lv v10)), (151, .arr 3 1 (List.map (LV.int .i64) v13))] rfl rfl (by kernel_rfl) ?_ ?_
    · refine mN0 (oM (v := (.arr _ _)) rfl ⟨rfl, ?_⟩)
      refine mN0 (oM (v := (.lst _ _)) rfl ⟨rfl, ?_⟩)
      refine mN0 (oM (v := (.lst _ _)) rfl ⟨rfl, ?_⟩)
      refine mN0 (oM (v := (.int _ _)) rfl ⟨rfl, ?_⟩)
      refine mN0 (oIx (f := (LV.int .i64)) te28 tk3 ts3 rfl rfl okI hx8 rfl ⟨rfl, ?_⟩)
      refine mN0 (oLd rfl tk3 ta3 ⟨rfl, ?_⟩)
      refine mN0 (oIx (f := GStamp.lv) te31 tk23 ts23 rfl rfl GStamp.ok hx9 rfl ⟨rfl, ?_⟩)
      refine mN0 (oLdA rfl tk23 ta23 ts23 rfl rfl ⟨rfl, ?_⟩)
      refine mN0 (oBS (f := GStamp.lv) (ys := [x9]) te31 tr23 ts23 rfl rfl rfl GStamp.ok ⟨rfl, ?_⟩)
      refine mN2 (oAp (f := GStamp.lv) te31 tr23 ts23 rfl rfl (prN rfl) rfl hv10 ?_)
      refine mN0 (oM (v := (.arr _ _)) rfl ⟨rfl, ?_⟩)
      refine mN0 (oM (v := (.lst _ _)) rfl ⟨rfl, ?_⟩)
      refine mN0 (oM (v := (.lst _ _)) rfl ⟨rfl, ?_⟩)
      refine mN0 (oM (v := (.int _ _)) rfl ⟨rfl, ?_⟩)
      refine mN0 (oIx (f := (LV.int .i64)) te28 tk3 ts3 rfl rfl okI hx11 rfl ⟨rfl, ?_⟩)
      refine mN0 (oLd rfl tk3 ta3 ⟨rfl, ?_⟩)
      refine mN0 (oIx (f := (LV.int .i64)) te28 tk3 ts3 rfl rfl okI hx12 rfl ⟨rfl, ?_⟩)
      refine mN0 (oLd rfl tk3 ta3 ⟨rfl, ?_⟩)
      refine mN0 (oBS (f := (LV.int .i64)) (ys := [x12]) te28 tr3 ts3 rfl rfl rfl okI ⟨rfl, ?_⟩)
      refine mN2 (oAp (f := (LV.int .i64)) te28 tr3 ts3 rfl rfl (prN rfl) rfl hv13 ?_)
      refine mN0 (oA (v := (.arr _ _)) rfl ⟨rfl, ?_⟩)
      refine mN0 (oA (v := (.arr _ _)) rfl ⟨rfl, ?_⟩)
      exact m0 (Wk.to (eC rfl (eC rfl (eC rfl (eC rfl (eC rfl (eC rfl eN)))))) (mC rfl (mC rfl mN)) rfl (prK rfl))
    refine blockN ?_
    refine thenN ?_
    refine LH.loneT [(4, .lst 3 (List.map GStamp.lv r2.1)), (5, .lst 1 (List.map (LV.int .i64) r2.2.1)), (6, .lst 1 (List.map (LV.int .i64) r3.1)), (7, .arr 141 (List.length v10)), (8, .arr 151 (List.length v13)), (9, .int .i64 (i64 (n4 + 1)))] [(141, .arr 23 3 (List.map GStamp.lv v10)), (151, .arr 3 1 (List.map (LV.int .i64) v13))] rfl ?_ ?_
    · refine sN (oM (v := (.int _ _)) rfl ?_)
      refine sN (oAdd rfl rfl ?_)
      refine sN (oA (v := (.int _ _)) rfl ?_)
      exact s0 (Wk.to (eC rfl (eC rfl (eC rfl (eC rfl (eC rfl (eC rfl eN)))))) (mC rfl (mC rfl mN)) rfl (prK rfl))
    exact roundN (e' := Env.of [(4, .lst 3 (List.map GStamp.lv r2.1)), (5, .lst 1 (List.map (LV.int .i64) r2.2.1)), (6, .lst 1 (List.map (LV.int .i64) r3.1)), (7, .arr 141 (List.length v10)), (8, .arr 151 (List.length v13)), (9, .int .i64 (i64 (n4 + 1)))]) (m' := Mem.of [(141, .arr 23 3 (List.map GStamp.lv v10)), (151, .arr 3 1 (List.map (LV.int .i64) v13))]) (Wk.to (eC rfl (eC rfl (eC rfl (eC rfl (eC rfl (eC rfl eN)))))) (mC rfl (mC rfl mN)) rfl (prK rfl)) ⟨(i64 (n4 + 1)), v10, v13, hrec1 ▸ h, rfl, rfl⟩
  replace h := iteF h hc7
  refine LH.exit ?_
  refine thenX ?_
  refine roundX ?_
  refine blockH ?_
  refine thenN ?_
  refine LH.wk ((Wk.trans (Wk.to (el := [(4, .lst 3 (List.map GStamp.lv r2.1)), (5, .lst 1 (List.map (LV.int .i64) r2.2.1)), (7, .arr 141 (List.length l5)), (8, .arr 151 (List.length l6))]) (ml := [(141, .arr 23 3 (List.map GStamp.lv l5)), (151, .arr 3 1 (List.map (LV.int .i64) l6))]) (eC rfl (eC rfl (eC rfl (eC rfl eN)))) (mC rfl (mC rfl mN)) rfl (prK rfl)) (Wk.trans (Wk.frzL (f := GStamp.lv) (el' := [(4, .lst 3 (List.map GStamp.lv r2.1)), (5, .lst 1 (List.map (LV.int .i64) r2.2.1)), (7, .lst 3 (List.map GStamp.lv l5)), (8, .arr 151 (List.length l6))]) 141 23 3 l5 rfl rfl (prN rfl) (fK rfl (fK rfl (fZ (fK rfl fN))))) (Wk.trans (Wk.frzL (f := (LV.int .i64)) (el' := [(4, .lst 3 (List.map GStamp.lv r2.1)), (5, .lst 1 (List.map (LV.int .i64) r2.2.1)), (7, .lst 3 (List.map GStamp.lv l5)), (8, .lst 1 (List.map (LV.int .i64) l6))]) 151 3 1 l6 rfl rfl (prN rfl) (fK rfl (fK rfl (fK rfl (fZ fN))))) (Wk.to (el := [(4, .lst 3 (List.map GStamp.lv r2.1)), (5, .lst 1 (List.map (LV.int .i64) r2.2.1)), (7, .lst 3 (List.map GStamp.lv l5)), (8, .lst 1 (List.map (LV.int .i64) l6))]) (ml := []) (eC rfl (eC rfl (eC rfl (eC rfl eN)))) mN rfl (prK rfl)))))) ?_
  obtain ⟨r14, hr14, h⟩ := bindS h
  refine LH.seqT [(4, .lst 3 (List.map GStamp.lv r2.1)), (5, .lst 1 (List.map (LV.int .i64) r2.2.1)), (7, .lst 3 (List.map GStamp.lv l5)), (8, .lst 1 (List.map (LV.int .i64) l6)), (10, .lst 1 (List.map (LV.int .i64) r14.1)), (11, .int .i64 r14.2)] [] rfl ?_ ?_
  · refine sN (oM (v := (.lst _ _)) rfl ?_)
    refine sN (oM (v := (.lst _ _)) rfl ?_)
    refine sN (oCP (args := [.lst 3 (List.map GStamp.lv r2.1), .lst 1 (List.map (LV.int .i64) r2.2.1)]) rfl isF20 rfl (sbR (sbR sbN)) (stamp_Canonical_ok hr14) rfl ?_)
    refine sN (oM (v := (.tup _)) rfl ?_)
    refine sN (oEx rfl rfl ?_)
    refine sN (oEx rfl rfl ?_)
    refine sN (oA (v := (.lst _ _)) rfl ?_)
    refine sN (oA (v := (.int _ _)) rfl ?_)
    exact s0 (Wk.to (eC rfl (eC rfl (eC rfl (eC rfl (eC rfl (eC rfl eN)))))) mN rfl (prK rfl))
  obtain ⟨r15, hr15, h⟩ := bindS h
  refine LH.seqT [(4, .lst 3 (List.map GStamp.lv r2.1)), (5, .lst 1 (List.map (LV.int .i64) r2.2.1)), (7, .lst 3 (List.map GStamp.lv l5)), (8, .lst 1 (List.map (LV.int .i64) l6)), (10, .lst 1 (List.map (LV.int .i64) r14.1)), (11, .int .i64 r14.2), (12, .lst 1 (List.map (LV.int .i64) r15.1)), (13, .int .i64 r15.2)] [] rfl ?_ ?_
  · refine sN (oM (v := (.lst _ _)) rfl ?_)
    refine sN (oM (v := (.lst _ _)) rfl ?_)
    refine sN (oCP (args := [.lst 3 (List.map GStamp.lv l5), .lst 1 (List.map (LV.int .i64) l6)]) rfl isF20 rfl (sbR (sbR sbN)) (stamp_Canonical_ok hr15) rfl ?_)
    refine sN (oM (v := (.tup _)) rfl ?_)
    refine sN (oEx rfl rfl ?_)
    refine sN (oEx rfl rfl ?_)
    refine sN (oA (v := (.lst _ _)) rfl ?_)
    refine sN (oA (v := (.int _ _)) rfl ?_)
    exact s0 (Wk.to (eC rfl (eC rfl (eC rfl (eC rfl (eC rfl (eC rfl (eC rfl (eC rfl eN)))))))) mN rfl (prK rfl))
  refine LH.seq ?_
  refine LH.seqT [(4, .lst 3 (List.map GStamp.lv r2.1)), (5, .lst 1 (List.map (LV.int .i64) r2.2.1)), (7, .lst 3 (List.map GStamp.lv l5)), (8, .lst 1 (List.map (LV.int .i64) l6)), (10, .lst 1 (List.map (LV.int .i64) r14.1)), (12, .lst 1 (List.map (LV.int .i64) r15.1)), (76, .bool ((r14.2 != 0) || ((r15.2 != 0) || ((r14.1.length : Int) != (r15.1.length : Int)))))] [] rfl ?_ ?_
  · refine sN (oM (v := (.int _ _)) rfl ?_)
    refine sN (oNe rfl rfl ?_)
    refine sN (oM (v := (.bool _)) rfl ?_)
    by_cases hb17 : (r14.2 != 0) = true
    · refine sF rfl rfl hb17 ?_
      refine sF rfl rfl hb17 ?_
      refine sN (oPkT (congrArg LV.bool hb17) (v := (.bool _)) rfl ?_)
      refine sN (oM (v := (.bool _)) rfl ?_)
      refine sF rfl rfl rfl ?_
      refine sF rfl rfl rfl ?_
      refine sF rfl rfl rfl ?_
      refine sF rfl rfl rfl ?_
      refine sF rfl rfl rfl ?_
      refine sN (oPkT rfl (v := (.bool _)) rfl ?_)
      exact s0 (Wk.to (eC rfl (eC rfl (eC rfl (eC rfl (eC rfl (eC rfl (eC (congrArg LV.bool (orT hb17)) eN))))))) mN rfl (prK rfl))
    · replace hb17 := bF hb17
      refine sT rfl (congrArg LV.bool hb17) (oM (v := (.int _ _)) rfl ?_)
      refine sT rfl (congrArg LV.bool hb17) (oNe rfl rfl ?_)
      refine sN (oPkF (congrArg LV.bool hb17) (v := (.bool _)) rfl ?_)
      refine sN (oM (v := (.bool _)) rfl ?_)
      by_cases hb18 : (r15.2 != 0) = true
      · refine sF rfl rfl hb18 ?_
        refine sF rfl rfl hb18 ?_
        refine sF rfl rfl hb18 ?_
        refine sF rfl rfl hb18 ?_
        refine sF rfl rfl hb18 ?_
        refine sN (oPkT (congrArg LV.bool hb18) (v := (.bool _)) rfl ?_)
        exact s0 (Wk.to (eC rfl (eC rfl (eC rfl (eC rfl (eC rfl (eC rfl (eC (congrArg LV.bool (Eq.trans (orT hb18) (orF hb17))) eN))))))) mN rfl (prK rfl))
      · replace hb18 := bF hb18
        refine sT rfl (congrArg LV.bool hb18) (oM (v := (.lst _ _)) rfl ?_)
        refine sT rfl (congrArg LV.bool hb18) (oLnL (f := (LV.int .i64)) te28 rfl ?_)
        refine sT rfl (congrArg LV.bool hb18) (oM (v := (.lst _ _)) rfl ?_)
        refine sT rfl (congrArg LV.bool hb18) (oLnL (f := (LV.int .i64)) te28 rfl ?_)
        refine sT rfl (congrArg LV.bool hb18) (oNe rfl rfl ?_)
        refine sN (oPkF (congrArg LV.bool hb18) (v := (.bool _)) rfl ?_)
        exact s0 (Wk.to (eC rfl (eC rfl (eC rfl (eC rfl (eC rfl (eC rfl (eC (congrArg LV.bool (Eq.trans (orF hb18) (orF hb17))) eN))))))) mN rfl (prK rfl))
  refine LH.cond (t := ((r14.2 != 0) || ((r15.2 != 0) || ((r14.1.length : Int) != (r15.1.length : Int))))) rfl (fun hc19 => ?_) (fun hc19 => ?_)
  · replace h := iteT h hc19
    refine LH.seqT [(2, .bool false)] [] rfl ?_ ?_
    · refine sN (oA (v := (.bool _)) rfl ?_)
      exact s0 (Wk.to (eC rfl eN) mN rfl (prK rfl))
    refine LH.ret ?_
    refine thenR ?_
    obtain rfl := Option.some.inj h
    exact retE (congrArg Array.toList Try.results7) (lrT rfl (lr0 ⟨memN mN, rfl, prK rfl, Sub.rfl⟩))
  replace h := iteF h hc19
  refine LH.skip ?_
  refine thenN ?_
  refine LH.wk (Wk.to (el := [(4, .lst 3 (List.map GStamp.lv r2.1)), (5, .lst 1 (List.map (LV.int .i64) r2.2.1)), (7, .lst 3 (List.map GStamp.lv l5)), (8, .lst 1 (List.map (LV.int .i64) l6)), (10, .lst 1 (List.map (LV.int .i64) r14.1)), (12, .lst 1 (List.map (LV.int .i64) r15.1))]) (ml := []) (eC rfl (eC rfl (eC rfl (eC rfl (eC rfl (eC rfl eN)))))) mN rfl (prK rfl)) ?_
  refine LH.seq ?_
  refine LH.seqT [(4, .lst 3 (List.map GStamp.lv r2.1)), (5, .lst 1 (List.map (LV.int .i64) r2.2.1)), (7, .lst 3 (List.map GStamp.lv l5)), (8, .lst 1 (List.map (LV.int .i64) l6)), (10, .lst 1 (List.map (LV.int .i64) r14.1)), (12, .lst 1 (List.map (LV.int .i64) r15.1)), (14, .int .i64 0)] [] rfl ?_ ?_
  · refine sN (oA (v := (.int _ _)) rfl ?_)
    exact s0 (Wk.to (eC rfl (eC rfl (eC rfl (eC rfl (eC rfl (eC rfl (eC rfl eN))))))) mN rfl (prK rfl))
  refine LH.block ?_
  refine LH.loop (fun n e m => ∃ (n20 : Int), law02_StampAnyOrder_L2 F r2 l5 l6 r14 r15 n n20 = some r ∧ e = Env.of [(4, .lst 3 (List.map GStamp.lv r2.1)), (5, .lst 1 (List.map (LV.int .i64) r2.2.1)), (7, .lst 3 (List.map GStamp.lv l5)), (8, .lst 1 (List.map (LV.int .i64) l6)), (10, .lst 1 (List.map (LV.int .i64) r14.1)), (12, .lst 1 (List.map (LV.int .i64) r15.1)), (14, .int .i64 n20)] ∧ m = Mem.of []) F ⟨0, h, rfl, rfl⟩ ?_
  clear h
  rintro n e m ⟨n20, h, rfl, rfl⟩
  rcases n with _ | n
  · cases (show Option.none = some _ from h)
  obtain ⟨rec2, hrec2⟩ : ∃ f, f = law02_StampAnyOrder_L2 F r2 l5 l6 r14 r15 n := ⟨_, rfl⟩
  replace h : law02_StampAnyOrder_L2_B F r2 l5 l6 r14 r15 rec2 n20 = some r := hrec2 ▸ h
  unfold law02_StampAnyOrder_L2_B at h
  refine LH.seq ?_
  refine LH.seqT [(4, .lst 3 (List.map GStamp.lv r2.1)), (5, .lst 1 (List.map (LV.int .i64) r2.2.1)), (7, .lst 3 (List.map GStamp.lv l5)), (8, .lst 1 (List.map (LV.int .i64) l6)), (10, .lst 1 (List.map (LV.int .i64) r14.1)), (12, .lst 1 (List.map (LV.int .i64) r15.1)), (14, .int .i64 n20), (80, .bool (decide (n20 < (r14.1.length : Int))))] [] rfl ?_ ?_
  · refine sN (oM (v := (.int _ _)) rfl ?_)
    refine sN (oM (v := (.lst _ _)) rfl ?_)
    refine sN (oLnL (f := (LV.int .i64)) te28 rfl ?_)
    refine sN (oLt rfl rfl ?_)
    exact s0 (Wk.to (eC rfl (eC rfl (eC rfl (eC rfl (eC rfl (eC rfl (eC rfl (eC rfl eN)))))))) mN rfl (prK rfl))
  refine LH.cond (t := (decide (n20 < (r14.1.length : Int)))) rfl (fun hc21 => ?_) (fun hc21 => ?_)
  · replace h := iteT h hc21
    refine LH.skip ?_
    refine thenN ?_
    refine LH.wk (Wk.to (el := [(4, .lst 3 (List.map GStamp.lv r2.1)), (5, .lst 1 (List.map (LV.int .i64) r2.2.1)), (7, .lst 3 (List.map GStamp.lv l5)), (8, .lst 1 (List.map (LV.int .i64) l6)), (10, .lst 1 (List.map (LV.int .i64) r14.1)), (12, .lst 1 (List.map (LV.int .i64) r15.1)), (14, .int .i64 n20)]) (ml := []) (eC rfl (eC rfl (eC rfl (eC rfl (eC rfl (eC rfl (eC rfl eN))))))) mN rfl (prK rfl)) ?_
    refine LH.seq ?_
    refine LH.block ?_
    obtain ⟨w23, hv, h⟩ := bindS h
    refine LH.seqJM mixed [] [0, 0, 0, 0, 0, 0, 0, 0, 0, 0, 0, 0, 0, 0, 0, 0, 0, 0, 0, 0, 0, 0, 0, 0, 0, 0, 0, 0, 0, 0, 0, 0, 0, 0, 0, 0, 0, 0, 0, 0, 0, 0, 0, 0, 0, 0, 0, 0, 0, 0, 0, 0, 0, 0, 0, 0, 0, 0, 0, 0, 0, 0, 0, 0] [(4, .lst 3 (List.map GStamp.lv r2.1)), (5, .lst 1 (List.map (LV.int .i64) r2.2.1)), (7, .lst 3 (List.map GStamp.lv l5)), (8, .lst 1 (List.map (LV.int .i64) l6)), (10, .lst 1 (List.map (LV.int .i64) r14.1)), (12, .lst 1 (List.map (LV.int .i64) r15.1)), (14, .int .i64 n20), (146, .bool w23)] [] rfl rfl (by kernel_rfl) ?_ ?_
    · refine mN0 (oM (v := (.lst _ _)) rfl ⟨rfl, ?_⟩)
      refine mN0 (oM (v := (.int _ _)) rfl ⟨rfl, ?_⟩)
      obtain ⟨x24, hx24, hv⟩ := bindS hv
      refine mN0 (oIx (f := (LV.int .i64)) te28 tk3 ts3 rfl rfl okI hx24 rfl ⟨rfl, ?_⟩)
      refine mN0 (oLd rfl tk3 ta3 ⟨rfl, ?_⟩)
      refine mN0 (oLt rfl rfl ⟨rfl, ?_⟩)
      refine mN0 (oM (v := (.bool _)) rfl ⟨rfl, ?_⟩)
      by_cases hb25 : (decide (x24 < 0)) = true
      · replace hv := iteT hv hb25
        refine mF rfl rfl hb25 ?_
        refine mF rfl rfl hb25 ?_
        refine mF rfl rfl hb25 ?_
        refine mF rfl rfl hb25 ?_
        refine mF rfl rfl hb25 ?_
        refine mF rfl rfl hb25 ?_
        refine mF rfl rfl hb25 ?_
        refine mN0 (oPkT (congrArg LV.bool hb25) (v := (.bool _)) rfl ⟨rfl, ?_⟩)
        refine mN0 (oM (v := (.bool _)) rfl ⟨rfl, ?_⟩)
        refine mF rfl rfl rfl ?_
        refine mF rfl rfl rfl ?_
        refine mF rfl rfl rfl ?_
        refine mF rfl rfl rfl ?_
        refine mF rfl rfl rfl ?_
        refine mN0 (oPkT rfl (v := (.bool _)) rfl ⟨rfl, ?_⟩)
        refine mN0 (oM (v := (.bool _)) rfl ⟨rfl, ?_⟩)
        refine mF rfl rfl rfl ?_
        refine mF rfl rfl rfl ?_
        refine mF rfl rfl rfl ?_
        refine mF rfl rfl rfl ?_
        refine mF rfl rfl rfl ?_
        refine mF rfl rfl rfl ?_
        refine mF rfl rfl rfl ?_
        refine mN0 (oPkT rfl (v := (.bool _)) rfl ⟨rfl, ?_⟩)
        refine mN0 (oM (v := (.bool _)) rfl ⟨rfl, ?_⟩)
        refine mF rfl rfl rfl ?_
        refine mF rfl rfl rfl ?_
        refine mF rfl rfl rfl ?_
        refine mF rfl rfl rfl ?_
        refine mF rfl rfl rfl ?_
        refine mF rfl rfl rfl ?_
        refine mF rfl rfl rfl ?_
        refine mF rfl rfl rfl ?_
        refine mF rfl rfl rfl ?_
        refine mF rfl rfl rfl ?_
        refine mF rfl rfl rfl ?_
        refine mF rfl rfl rfl ?_
        refine mF rfl rfl rfl ?_
        refine mF rfl rfl rfl ?_
        refine mF rfl rfl rfl ?_
        refine mN0 (oPkT rfl (v := (.bool _)) rfl ⟨rfl, ?_⟩)
        refine mN0 (oM (v := (.bool _)) rfl ⟨rfl, ?_⟩)
        refine mF rfl rfl rfl ?_
        refine mF rfl rfl rfl ?_
        refine mF rfl rfl rfl ?_
        refine mF rfl rfl rfl ?_
        refine mF rfl rfl rfl ?_
        refine mF rfl rfl rfl ?_
        refine mF rfl rfl rfl ?_
        refine mF rfl rfl rfl ?_
        refine mF rfl rfl rfl ?_
        refine mF rfl rfl rfl ?_
        refine mF rfl rfl rfl ?_
        refine mF rfl rfl rfl ?_
        refine mF rfl rfl rfl ?_
        refine mF rfl rfl rfl ?_
        refine mF rfl rfl rfl ?_
        refine mN0 (oPkT rfl (v := (.bool _)) rfl ⟨rfl, ?_⟩)
        obtain rfl := Option.some.inj hv
        exact m0 (Wk.to (eC rfl (eC rfl (eC rfl (eC rfl (eC rfl (eC rfl (eC rfl (eC rfl eN)))))))) mN rfl (prK rfl))
      · replace hb25 := bF hb25
        replace hv := iteF hv hb25
        refine mT rfl (congrArg LV.bool hb25) (mN0 (oM (v := (.lst _ _)) rfl ⟨rfl, ?_⟩))
        refine mT rfl (congrArg LV.bool hb25) (mN0 (oM (v := (.int _ _)) rfl ⟨rfl, ?_⟩))
        obtain ⟨x26, hx26, hv⟩ := bindS hv
        refine mT rfl (congrArg LV.bool hb25) (mN0 (oIx (f := (LV.int .i64)) te28 tk3 ts3 rfl rfl okI hx26 rfl ⟨rfl, ?_⟩))
        refine mT rfl (congrArg LV.bool hb25) (mN0 (oLd rfl tk3 ta3 ⟨rfl, ?_⟩))
        refine mT rfl (congrArg LV.bool hb25) (mN0 (oM (v := (.lst _ _)) rfl ⟨rfl, ?_⟩))
        refine mT rfl (congrArg LV.bool hb25) (mN0 (oLnL (f := GStamp.lv) te31 rfl ⟨rfl, ?_⟩))
        refine mT rfl (congrArg LV.bool hb25) (mN0 (oGe rfl rfl ⟨rfl, ?_⟩))
        refine mN0 (oPkF (congrArg LV.bool hb25) (v := (.bool _)) rfl ⟨rfl, ?_⟩)
        refine mN0 (oM (v := (.bool _)) rfl ⟨rfl, ?_⟩)
        by_cases hb27 : (decide (x26 ≥ (r2.1.length : Int))) = true
        · replace hv := iteT hv hb27
          refine mF rfl rfl hb27 ?_
          refine mF rfl rfl hb27 ?_
          refine mF rfl rfl hb27 ?_
          refine mF rfl rfl hb27 ?_
          refine mF rfl rfl hb27 ?_
          refine mN0 (oPkT (congrArg LV.bool hb27) (v := (.bool _)) rfl ⟨rfl, ?_⟩)
          refine mN0 (oM (v := (.bool _)) rfl ⟨rfl, ?_⟩)
          refine mF rfl rfl rfl ?_
          refine mF rfl rfl rfl ?_
          refine mF rfl rfl rfl ?_
          refine mF rfl rfl rfl ?_
          refine mF rfl rfl rfl ?_
          refine mF rfl rfl rfl ?_
          refine mF rfl rfl rfl ?_
          refine mN0 (oPkT rfl (v := (.bool _)) rfl ⟨rfl, ?_⟩)
          refine mN0 (oM (v := (.bool _)) rfl ⟨rfl, ?_⟩)
          refine mF rfl rfl rfl ?_
          refine mF rfl rfl rfl ?_
          refine mF rfl rfl rfl ?_
          refine mF rfl rfl rfl ?_
          refine mF rfl rfl rfl ?_
          refine mF rfl rfl rfl ?_
          refine mF rfl rfl rfl ?_
          refine mF rfl rfl rfl ?_
          refine mF rfl rfl rfl ?_
          refine mF rfl rfl rfl ?_
          refine mF rfl rfl rfl ?_
          refine mF rfl rfl rfl ?_
          refine mF rfl rfl rfl ?_
          refine mF rfl rfl rfl ?_
          refine mF rfl rfl rfl ?_
          refine mN0 (oPkT rfl (v := (.bool _)) rfl ⟨rfl, ?_⟩)
          refine mN0 (oM (v := (.bool _)) rfl ⟨rfl, ?_⟩)
          refine mF rfl rfl rfl ?_
          refine mF rfl rfl rfl ?_
          refine mF rfl rfl rfl ?_
          refine mF rfl rfl rfl ?_
          refine mF rfl rfl rfl ?_
          refine mF rfl rfl rfl ?_
          refine mF rfl rfl rfl ?_
          refine mF rfl rfl rfl ?_
          refine mF rfl rfl rfl ?_
          refine mF rfl rfl rfl ?_
          refine mF rfl rfl rfl ?_
          refine mF rfl rfl rfl ?_
          refine mF rfl rfl rfl ?_
          refine mF rfl rfl rfl ?_
          refine mF rfl rfl rfl ?_
          refine mN0 (oPkT rfl (v := (.bool _)) rfl ⟨rfl, ?_⟩)
          obtain rfl := Option.some.inj hv
          exact m0 (Wk.to (eC rfl (eC rfl (eC rfl (eC rfl (eC rfl (eC rfl (eC rfl (eC rfl eN)))))))) mN rfl (prK rfl))
        · replace hb27 := bF hb27
          replace hv := iteF hv hb27
          refine mT rfl (congrArg LV.bool hb27) (mN0 (oM (v := (.lst _ _)) rfl ⟨rfl, ?_⟩))
          refine mT rfl (congrArg LV.bool hb27) (mN0 (oM (v := (.int _ _)) rfl ⟨rfl, ?_⟩))
          obtain ⟨x28, hx28, hv⟩ := bindS hv
          refine mT rfl (congrArg LV.bool hb27) (mN0 (oIx (f := (LV.int .i64)) te28 tk3 ts3 rfl rfl okI hx28 rfl ⟨rfl, ?_⟩))
          refine mT rfl (congrArg LV.bool hb27) (mN0 (oLd rfl tk3 ta3 ⟨rfl, ?_⟩))
          refine mT rfl (congrArg LV.bool hb27) (mN0 (oLt rfl rfl ⟨rfl, ?_⟩))
          refine mN0 (oPkF (congrArg LV.bool hb27) (v := (.bool _)) rfl ⟨rfl, ?_⟩)
          refine mN0 (oM (v := (.bool _)) rfl ⟨rfl, ?_⟩)
          by_cases hb29 : (decide (x28 < 0)) = true
          · replace hv := iteT hv hb29
            refine mF rfl rfl hb29 ?_
            refine mF rfl rfl hb29 ?_
            refine mF rfl rfl hb29 ?_
            refine mF rfl rfl hb29 ?_
            refine mF rfl rfl hb29 ?_
            refine mF rfl rfl hb29 ?_
            refine mF rfl rfl hb29 ?_
            refine mN0 (oPkT (congrArg LV.bool hb29) (v := (.bool _)) rfl ⟨rfl, ?_⟩)
            refine mN0 (oM (v := (.bool _)) rfl ⟨rfl, ?_⟩)
            refine mF rfl rfl rfl ?_
            refine mF rfl rfl rfl ?_
            refine mF rfl rfl rfl ?_
            refine mF rfl rfl rfl ?_
            refine mF rfl rfl rfl ?_
            refine mF rfl rfl rfl ?_
            refine mF rfl rfl rfl ?_
            refine mF rfl rfl rfl ?_
            refine mF rfl rfl rfl ?_
            refine mF rfl rfl rfl ?_
            refine mF rfl rfl rfl ?_
            refine mF rfl rfl rfl ?_
            refine mF rfl rfl rfl ?_
            refine mF rfl rfl rfl ?_
            refine mF rfl rfl rfl ?_
            refine mN0 (oPkT rfl (v := (.bool _)) rfl ⟨rfl, ?_⟩)
            refine mN0 (oM (v := (.bool _)) rfl ⟨rfl, ?_⟩)
            refine mF rfl rfl rfl ?_
            refine mF rfl rfl rfl ?_
            refine mF rfl rfl rfl ?_
            refine mF rfl rfl rfl ?_
            refine mF rfl rfl rfl ?_
            refine mF rfl rfl rfl ?_
            refine mF rfl rfl rfl ?_
            refine mF rfl rfl rfl ?_
            refine mF rfl rfl rfl ?_
            refine mF rfl rfl rfl ?_
            refine mF rfl rfl rfl ?_
            refine mF rfl rfl rfl ?_
            refine mF rfl rfl rfl ?_
            refine mF rfl rfl rfl ?_
            refine mF rfl rfl rfl ?_
            refine mN0 (oPkT rfl (v := (.bool _)) rfl ⟨rfl, ?_⟩)
            obtain rfl := Option.some.inj hv
            exact m0 (Wk.to (eC rfl (eC rfl (eC rfl (eC rfl (eC rfl (eC rfl (eC rfl (eC rfl eN)))))))) mN rfl (prK rfl))
          · replace hb29 := bF hb29
            replace hv := iteF hv hb29
            refine mT rfl (congrArg LV.bool hb29) (mN0 (oM (v := (.lst _ _)) rfl ⟨rfl, ?_⟩))
            refine mT rfl (congrArg LV.bool hb29) (mN0 (oM (v := (.int _ _)) rfl ⟨rfl, ?_⟩))
            obtain ⟨x30, hx30, hv⟩ := bindS hv
            refine mT rfl (congrArg LV.bool hb29) (mN0 (oIx (f := (LV.int .i64)) te28 tk3 ts3 rfl rfl okI hx30 rfl ⟨rfl, ?_⟩))
            refine mT rfl (congrArg LV.bool hb29) (mN0 (oLd rfl tk3 ta3 ⟨rfl, ?_⟩))
            refine mT rfl (congrArg LV.bool hb29) (mN0 (oM (v := (.lst _ _)) rfl ⟨rfl, ?_⟩))
            refine mT rfl (congrArg LV.bool hb29) (mN0 (oLnL (f := GStamp.lv) te31 rfl ⟨rfl, ?_⟩))
            refine mT rfl (congrArg LV.bool hb29) (mN0 (oGe rfl rfl ⟨rfl, ?_⟩))
            refine mN0 (oPkF (congrArg LV.bool hb29) (v := (.bool _)) rfl ⟨rfl, ?_⟩)
            refine mN0 (oM (v := (.bool _)) rfl ⟨rfl, ?_⟩)
            by_cases hb31 : (decide (x30 ≥ (l5.length : Int))) = true
            · replace hv := iteT hv hb31
              refine mF rfl rfl hb31 ?_
              refine mF rfl rfl hb31 ?_
              refine mF rfl rfl hb31 ?_
              refine mF rfl rfl hb31 ?_
              refine mF rfl rfl hb31 ?_
              refine mF rfl rfl hb31 ?_
              refine mF rfl rfl hb31 ?_
              refine mF rfl rfl hb31 ?_
              refine mF rfl rfl hb31 ?_
              refine mF rfl rfl hb31 ?_
              refine mF rfl rfl hb31 ?_
              refine mF rfl rfl hb31 ?_
              refine mF rfl rfl hb31 ?_
              refine mF rfl rfl hb31 ?_
              refine mF rfl rfl hb31 ?_
              refine mN0 (oPkT (congrArg LV.bool hb31) (v := (.bool _)) rfl ⟨rfl, ?_⟩)
              refine mN0 (oM (v := (.bool _)) rfl ⟨rfl, ?_⟩)
              refine mF rfl rfl rfl ?_
              refine mF rfl rfl rfl ?_
              refine mF rfl rfl rfl ?_
              refine mF rfl rfl rfl ?_
              refine mF rfl rfl rfl ?_
              refine mF rfl rfl rfl ?_
              refine mF rfl rfl rfl ?_
              refine mF rfl rfl rfl ?_
              refine mF rfl rfl rfl ?_
              refine mF rfl rfl rfl ?_
              refine mF rfl rfl rfl ?_
              refine mF rfl rfl rfl ?_
              refine mF rfl rfl rfl ?_
              refine mF rfl rfl rfl ?_
              refine mF rfl rfl rfl ?_
              refine mN0 (oPkT rfl (v := (.bool _)) rfl ⟨rfl, ?_⟩)
              obtain rfl := Option.some.inj hv
              exact m0 (Wk.to (eC rfl (eC rfl (eC rfl (eC rfl (eC rfl (eC rfl (eC rfl (eC rfl eN)))))))) mN rfl (prK rfl))
            · replace hb31 := bF hb31
              replace hv := iteF hv hb31
              refine mT rfl (congrArg LV.bool hb31) (mN0 (oM (v := (.lst _ _)) rfl ⟨rfl, ?_⟩))
              refine mT rfl (congrArg LV.bool hb31) (mN0 (oM (v := (.lst _ _)) rfl ⟨rfl, ?_⟩))
              refine mT rfl (congrArg LV.bool hb31) (mN0 (oM (v := (.int _ _)) rfl ⟨rfl, ?_⟩))
              obtain ⟨x32, hx32, hv⟩ := bindS hv
              refine mT rfl (congrArg LV.bool hb31) (mN0 (oIx (f := (LV.int .i64)) te28 tk3 ts3 rfl rfl okI hx32 rfl ⟨rfl, ?_⟩))
              refine mT rfl (congrArg LV.bool hb31) (mN0 (oLd rfl tk3 ta3 ⟨rfl, ?_⟩))
              obtain ⟨x33, hx33, hv⟩ := bindS hv
              refine mT rfl (congrArg LV.bool hb31) (mN0 (oIx (f := GStamp.lv) te31 tk23 ts23 rfl rfl GStamp.ok hx33 rfl ⟨rfl, ?_⟩))
              refine mT rfl (congrArg LV.bool hb31) (mN0 (oLdA rfl tk23 ta23 ts23 rfl rfl ⟨rfl, ?_⟩))
              refine mT rfl (congrArg LV.bool hb31) (mN0 (oM (v := (.lst _ _)) rfl ⟨rfl, ?_⟩))
              refine mT rfl (congrArg LV.bool hb31) (mN0 (oM (v := (.lst _ _)) rfl ⟨rfl, ?_⟩))
              refine mT rfl (congrArg LV.bool hb31) (mN0 (oM (v := (.int _ _)) rfl ⟨rfl, ?_⟩))
              obtain ⟨x34, hx34, hv⟩ := bindS hv
              refine mT rfl (congrArg LV.bool hb31) (mN0 (oIx (f := (LV.int .i64)) te28 tk3 ts3 rfl rfl okI hx34 rfl ⟨rfl, ?_⟩))
              refine mT rfl (congrArg LV.bool hb31) (mN0 (oLd rfl tk3 ta3 ⟨rfl, ?_⟩))
              obtain ⟨x35, hx35, hv⟩ := bindS hv
              refine mT rfl (congrArg LV.bool hb31) (mN0 (oIx (f := GStamp.lv) te31 tk23 ts23 rfl rfl GStamp.ok hx35 rfl ⟨rfl, ?_⟩))
              refine mT rfl (congrArg LV.bool hb31) (mN0 (oLdA rfl tk23 ta23 ts23 rfl rfl ⟨rfl, ?_⟩))
              refine mT rfl (congrArg LV.bool hb31) (mN0 (oNeA rfl rfl (ae23 x33 x35) ⟨rfl, ?_⟩))
              refine mN0 (oPkF (congrArg LV.bool hb31) (v := (.bool _)) rfl ⟨rfl, ?_⟩)
              refine mN0 (oM (v := (.bool _)) rfl ⟨rfl, ?_⟩)
              by_cases hb36 : (!(decide (x33 = x35))) = true
              · replace hv := iteT hv hb36
                refine mF rfl rfl hb36 ?_
                refine mF rfl rfl hb36 ?_
                refine mF rfl rfl hb36 ?_
                refine mF rfl rfl hb36 ?_
                refine mF rfl rfl hb36 ?_
                refine mF rfl rfl hb36 ?_
                refine mF rfl rfl hb36 ?_
                refine mF rfl rfl hb36 ?_
                refine mF rfl rfl hb36 ?_
                refine mF rfl rfl hb36 ?_
                refine mF rfl rfl hb36 ?_
                refine mF rfl rfl hb36 ?_
                refine mF rfl rfl hb36 ?_
                refine mF rfl rfl hb36 ?_
                refine mF rfl rfl hb36 ?_
                refine mN0 (oPkT (congrArg LV.bool hb36) (v := (.bool _)) rfl ⟨rfl, ?_⟩)
                obtain rfl := Option.some.inj hv
                exact m0 (Wk.to (eC rfl (eC rfl (eC rfl (eC rfl (eC rfl (eC rfl (eC rfl (eC rfl eN)))))))) mN rfl (prK rfl))
              · replace hb36 := bF hb36
                replace hv := iteF hv hb36
                refine mT rfl (congrArg LV.bool hb36) (mN0 (oM (v := (.lst _ _)) rfl ⟨rfl, ?_⟩))
                refine mT rfl (congrArg LV.bool hb36) (mN0 (oM (v := (.lst _ _)) rfl ⟨rfl, ?_⟩))
                refine mT rfl (congrArg LV.bool hb36) (mN0 (oM (v := (.int _ _)) rfl ⟨rfl, ?_⟩))
                obtain ⟨x37, hx37, hv⟩ := bindS hv
                refine mT rfl (congrArg LV.bool hb36) (mN0 (oIx (f := (LV.int .i64)) te28 tk3 ts3 rfl rfl okI hx37 rfl ⟨rfl, ?_⟩))
                refine mT rfl (congrArg LV.bool hb36) (mN0 (oLd rfl tk3 ta3 ⟨rfl, ?_⟩))
                obtain ⟨x38, hx38, hv⟩ := bindS hv
                refine mT rfl (congrArg LV.bool hb36) (mN0 (oIx (f := (LV.int .i64)) te28 tk3 ts3 rfl rfl okI hx38 rfl ⟨rfl, ?_⟩))
                refine mT rfl (congrArg LV.bool hb36) (mN0 (oLd rfl tk3 ta3 ⟨rfl, ?_⟩))
                refine mT rfl (congrArg LV.bool hb36) (mN0 (oM (v := (.lst _ _)) rfl ⟨rfl, ?_⟩))
                refine mT rfl (congrArg LV.bool hb36) (mN0 (oM (v := (.lst _ _)) rfl ⟨rfl, ?_⟩))
                refine mT rfl (congrArg LV.bool hb36) (mN0 (oM (v := (.int _ _)) rfl ⟨rfl, ?_⟩))
                obtain ⟨x39, hx39, hv⟩ := bindS hv
                refine mT rfl (congrArg LV.bool hb36) (mN0 (oIx (f := (LV.int .i64)) te28 tk3 ts3 rfl rfl okI hx39 rfl ⟨rfl, ?_⟩))
                refine mT rfl (congrArg LV.bool hb36) (mN0 (oLd rfl tk3 ta3 ⟨rfl, ?_⟩))
                obtain ⟨x40, hx40, hv⟩ := bindS hv
                refine mT rfl (congrArg LV.bool hb36) (mN0 (oIx (f := (LV.int .i64)) te28 tk3 ts3 rfl rfl okI hx40 rfl ⟨rfl, ?_⟩))
                refine mT rfl (congrArg LV.bool hb36) (mN0 (oLd rfl tk3 ta3 ⟨rfl, ?_⟩))
                refine mT rfl (congrArg LV.bool hb36) (mN0 (oNe rfl rfl ⟨rfl, ?_⟩))
                refine mN0 (oPkF (congrArg LV.bool hb36) (v := (.bool _)) rfl ⟨rfl, ?_⟩)
                obtain rfl := Option.some.inj hv
                exact m0 (Wk.to (eC rfl (eC rfl (eC rfl (eC rfl (eC rfl (eC rfl (eC rfl (eC rfl eN)))))))) mN rfl (prK rfl))
    clear hv
    refine LH.cond (t := w23) rfl (fun hc41 => ?_) (fun hc41 => ?_)
    · replace h := iteT h hc41
      refine LH.seqT [(2, .bool false)] [] rfl ?_ ?_
      · refine sN (oA (v := (.bool _)) rfl ?_)
        exact s0 (Wk.to (eC rfl eN) mN rfl (prK rfl))
      refine LH.ret ?_
      refine blockR ?_
      refine thenR ?_
      refine roundR ?_
      refine blockR ?_
      refine thenR ?_
      obtain rfl := Option.some.inj h
      exact retE (congrArg Array.toList Try.results7) (lrT rfl (lr0 ⟨memN mN, rfl, prK rfl, Sub.rfl⟩))
    replace h := iteF h hc41
    refine LH.skip ?_
    refine blockN ?_
    refine thenN ?_
    refine LH.wk (Wk.to (el := [(4, .lst 3 (List.map GStamp.lv r2.1)), (5, .lst 1 (List.map (LV.int .i64) r2.2.1)), (7, .lst 3 (List.map GStamp.lv l5)), (8, .lst 1 (List.map (LV.int .i64) l6)), (10, .lst 1 (List.map (LV.int .i64) r14.1)), (12, .lst 1 (List.map (LV.int .i64) r15.1)), (14, .int .i64 n20)]) (ml := []) (eC rfl (eC rfl (eC rfl (eC rfl (eC rfl (eC rfl (eC rfl eN))))))) mN rfl (prK rfl)) ?_
    refine LH.loneT [(4, .lst 3 (List.map GStamp.lv r2.1)), (5, .lst 1 (List.map (LV.int .i64) r2.2.1)), (7, .lst 3 (List.map GStamp.lv l5)), (8, .lst 1 (List.map (LV.int .i64) l6)), (10, .lst 1 (List.map (LV.int .i64) r14.1)), (12, .lst 1 (List.map (LV.int .i64) r15.1)), (14, .int .i64 (i64 (n20 + 1)))] [] rfl ?_ ?_
    · refine sN (oM (v := (.int _ _)) rfl ?_)
      refine sN (oAdd rfl rfl ?_)
      refine sN (oA (v := (.int _ _)) rfl ?_)
      exact s0 (Wk.to (eC rfl (eC rfl (eC rfl (eC rfl (eC rfl (eC rfl (eC rfl eN))))))) mN rfl (prK rfl))
    exact roundN (e' := Env.of [(4, .lst 3 (List.map GStamp.lv r2.1)), (5, .lst 1 (List.map (LV.int .i64) r2.2.1)), (7, .lst 3 (List.map GStamp.lv l5)), (8, .lst 1 (List.map (LV.int .i64) l6)), (10, .lst 1 (List.map (LV.int .i64) r14.1)), (12, .lst 1 (List.map (LV.int .i64) r15.1)), (14, .int .i64 (i64 (n20 + 1)))]) (m' := Mem.of []) (Wk.to (eC rfl (eC rfl (eC rfl (eC rfl (eC rfl (eC rfl (eC rfl eN))))))) mN rfl (prK rfl)) ⟨(i64 (n20 + 1)), hrec2 ▸ h, rfl, rfl⟩
  replace h := iteF h hc21
  refine LH.exit ?_
  refine thenX ?_
  refine roundX ?_
  refine blockH ?_
  refine thenN ?_
  refine LH.wk (Wk.to (el := []) (ml := []) eN mN rfl (prK rfl)) ?_
  obtain ⟨r42, hr42, h⟩ := bindS h
  refine LH.seqT [(2, .bool r42)] [] rfl ?_ ?_
  · refine sN (oCP (args := []) rfl isF16 rfl sbN (law02_awake_ok hr42) rfl ?_)
    refine sN (oA (v := (.bool _)) rfl ?_)
    exact s0 (Wk.to (eC rfl eN) mN rfl (prK rfl))
  refine LH.ret ?_
  obtain rfl := Option.some.inj h
  exact retE (congrArg Array.toList Try.results7) (lrT rfl (lr0 ⟨memN mN, rfl, prK rfl, Sub.rfl⟩))

end Go.Proofs.Ytdkhlkihhdjbbaa
