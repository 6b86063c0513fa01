/- Walks, printed by program (gen.py): each function computes its plain function. -/
import Derived.Test.YtdkhlkihhdjbbaaW9
set_option linter.unusedVariables false
set_option linter.unusedSimpArgs false
set_option maxRecDepth 100000
namespace Go.Proofs.Ytdkhlkihhdjbbaa
open Go.L Go.Sh
theorem law02_StampDisputes_ok {F : Nat} {p0 : List Int} {r : Bool} (h : law02_StampDisputes F p0 = some r) : LCall Try.prog 10 [.lst 1 (List.map (LV.int .i64) p0)] (Mem.of []) (.bool r) (Mem.of []) := by
  unfold law02_StampDisputes at h
  refine bodyT Try.func10 rfl (by rw [Try.ntmps10]; exact Nat.le_of_ble_eq_true rfl) ?_
  refine LH.wk (Wk.to (el := [(0, .lst 1 (List.map (LV.int .i64) p0))]) (ml := []) (eC rfl eN) mN rfl (prK rfl)) ?_
  refine LH.seqT [(0, .lst 1 (List.map (LV.int .i64) p0))] [] rfl ?_ ?_
  · refine sN (oA (v := (.bool _)) rfl ?_)
    exact s0 (Wk.to (eC rfl eN) mN rfl (prK rfl))
  obtain ⟨r1, hr1, h⟩ := bindS h
  refine LH.seqT [(3, .ptr 7 0)] [(7, .box [.lst 1 (List.map (LV.int .i64) r1.L), .int .i64 r1.At])] rfl ?_ ?_
  · refine sN (oM (v := (.lst _ _)) rfl ?_)
    refine sN (oCM (args := [.lst 1 (List.map (LV.int .i64) p0)]) (ml := []) (ml' := [(7, .box [.lst 1 (List.map (LV.int .i64) r1.L), .int .i64 r1.At])]) rfl isF17 rfl (sbR sbN) (make_New_ok hr1) mN (newF rfl newN) rfl ?_)
    refine sN (oA (v := (.ptr _ _)) rfl ?_)
    exact s0 (Wk.to (eC rfl eN) (mC rfl mN) rfl (prK rfl))
  obtain ⟨r2, hr2, h⟩ := bindS h
  refine LH.seqT [(3, .ptr 7 0), (4, .lst 3 (List.map GStamp.lv r2.1)), (5, .arr 149 (List.length r2.2.1))] [(7, .box [.lst 1 (List.map (LV.int .i64) r2.2.2.L), .int .i64 r2.2.2.At]), (149, .arr 3 1 (List.map (LV.int .i64) r2.2.1))] rfl ?_ ?_
  · refine sN (oM (v := (.ptr _ _)) rfl ?_)
    refine sN (oCM (args := [.ptr 7 0, .int .i64 14, .int .i64 6]) (ml := [(7, .box [.lst 1 (List.map (LV.int .i64) r1.L), .int .i64 r1.At])]) (ml' := [(7, .box [.lst 1 (List.map (LV.int .i64) r2.2.2.L), .int .i64 r2.2.2.At]), (145, .arr 23 3 (List.map GStamp.lv r2.1)), (149, .arr 3 1 (List.map (LV.int .i64) r2.2.1))]) rfl isF18 rfl (sbR (sbR (sbR sbN))) (law02_events_ok hr2) (mC rfl mN) (newI rfl (newF rfl (newF rfl newN))) rfl ?_)
    refine sN (oM (v := (.tup _)) rfl ?_)
    refine sN (oEx rfl rfl ?_)
    refine sN (oEx rfl rfl ?_)
    refine sN (oA (v := (.arr _ _)) rfl ?_)
    refine sN (oA (v := (.arr _ _)) rfl ?_)
    exact s0 ((Wk.trans (Wk.to (el := [(3, .ptr 7 0), (4, .arr 145 (List.length r2.1)), (5, .arr 149 (List.length r2.2.1))]) (ml := [(7, .box [.lst 1 (List.map (LV.int .i64) r2.2.2.L), .int .i64 r2.2.2.At]), (145, .arr 23 3 (List.map GStamp.lv r2.1)), (149, .arr 3 1 (List.map (LV.int .i64) r2.2.1))]) (eC rfl (eC rfl (eC rfl eN))) (mC rfl (mC rfl (mC rfl mN))) rfl (prK rfl)) (Wk.trans (Wk.frzL (f := GStamp.lv) (el' := [(3, .ptr 7 0), (4, .lst 3 (List.map GStamp.lv r2.1)), (5, .arr 149 (List.length r2.2.1))]) 145 23 3 r2.1 rfl rfl (prN rfl) (fK rfl (fZ (fK rfl fN)))) (Wk.to (eC rfl (eC rfl (eC rfl eN))) (mC rfl (mC rfl mN)) rfl (prK rfl)))))
  refine LH.seq ?_
  obtain ⟨r3, hr3, h⟩ := bindS h
  refine LH.seqT [(4, .lst 3 (List.map GStamp.lv r2.1)), (5, .arr 149 (List.length r2.2.1)), (19, .bool r3.1)] [(149, .arr 3 1 (List.map (LV.int .i64) r2.2.1))] rfl ?_ ?_
  · refine sN (oM (v := (.ptr _ _)) rfl ?_)
    refine sN (oCM (args := [.ptr 7 0, .int .i64 10]) (ml := [(7, .box [.lst 1 (List.map (LV.int .i64) r2.2.2.L), .int .i64 r2.2.2.At])]) (ml' := [(7, .box [.lst 1 (List.map (LV.int .i64) r3.2.L), .int .i64 r3.2.At])]) rfl isF19 rfl (sbR (sbR sbN)) (GTape_One_ok hr3) (mC rfl mN) (newI rfl newN) rfl ?_)
    exact s0 (Wk.to (eC rfl (eC rfl (eC rfl eN))) (mC rfl mN) rfl (prK rfl))
  refine LH.cond (t := r3.1) rfl (fun hc4 => ?_) (fun hc4 => ?_)
  · replace h := iteT h hc4
    obtain ⟨v5, hv5, h⟩ := bindS h
    refine LH.loneT [(4, .lst 3 (List.map GStamp.lv r2.1)), (5, .lst 1 (List.map (LV.int .i64) v5))] [] rfl ?_ ?_
    · refine sN (oM (v := (.arr _ _)) rfl ?_)
      refine sN (oBS (f := (LV.int .i64)) (ys := [0]) te28 tr3 ts3 rfl rfl rfl okI ?_)
      refine sN (oAp (f := (LV.int .i64)) te28 tr3 ts3 rfl rfl (prN rfl) rfl hv5 ?_)
      refine sN (oA (v := (.arr _ _)) rfl ?_)
      exact s0 ((Wk.trans (Wk.to (el := [(4, .lst 3 (List.map GStamp.lv r2.1)), (5, .arr 149 (List.length v5))]) (ml := [(149, .arr 3 1 (List.map (LV.int .i64) v5))]) (eC rfl (eC rfl eN)) (mC rfl mN) rfl (prK rfl)) (Wk.trans (Wk.frzL (f := (LV.int .i64)) (el' := [(4, .lst 3 (List.map GStamp.lv r2.1)), (5, .lst 1 (List.map (LV.int .i64) v5))]) 149 3 1 v5 rfl rfl (prN rfl) (fK rfl (fZ fN))) (Wk.to (eC rfl (eC rfl eN)) mN rfl (prK rfl)))))
    refine thenN ?_
    obtain ⟨r6, hr6, h⟩ := bindS h
    refine LH.seqT [(4, .lst 3 (List.map GStamp.lv r2.1)), (5, .lst 1 (List.map (LV.int .i64) v5)), (6, .lst 2 (List.map GIdentity.lv r6.1)), (7, .int .i64 r6.2)] [] rfl ?_ ?_
    · refine sN (oM (v := (.lst _ _)) rfl ?_)
      refine sN (oM (v := (.lst _ _)) rfl ?_)
      refine sN (oCP (args := [.lst 3 (List.map GStamp.lv r2.1), .lst 1 (List.map (LV.int .i64) v5)]) rfl isF30 rfl (sbR (sbR sbN)) (stamp_Disputed_ok hr6) rfl ?_)
      refine sN (oM (v := (.tup _)) rfl ?_)
      refine sN (oEx rfl rfl ?_)
      refine sN (oEx rfl rfl ?_)
      refine sN (oA (v := (.lst _ _)) rfl ?_)
      refine sN (oA (v := (.int _ _)) rfl ?_)
      exact s0 (Wk.to (eC rfl (eC rfl (eC rfl (eC rfl eN)))) mN rfl (prK rfl))
    obtain ⟨r7, hr7, h⟩ := bindS h
    refine LH.seqT [(6, .lst 2 (List.map GIdentity.lv r6.1)), (7, .int .i64 r6.2), (8, .lst 2 (List.map GIdentity.lv r7.1)), (9, .int .i64 r7.2)] [] rfl ?_ ?_
    · refine sN (oM (v := (.lst _ _)) rfl ?_)
      refine sN (oM (v := (.lst _ _)) rfl ?_)
      refine sN (oCP (args := [.lst 3 (List.map GStamp.lv r2.1), .lst 1 (List.map (LV.int .i64) v5)]) rfl isF31 rfl (sbR (sbR sbN)) (ref02_Disputed_ok hr7) rfl ?_)
      refine sN (oM (v := (.tup _)) rfl ?_)
      refine sN (oEx rfl rfl ?_)
      refine sN (oEx rfl rfl ?_)
      refine sN (oA (v := (.lst _ _)) rfl ?_)
      refine sN (oA (v := (.int _ _)) rfl ?_)
      exact s0 (Wk.to (eC rfl (eC rfl (eC rfl (eC rfl eN)))) mN rfl (prK rfl))
    refine LH.seq ?_
    refine LH.seqT [(6, .lst 2 (List.map GIdentity.lv r6.1)), (8, .lst 2 (List.map GIdentity.lv r7.1)), (44, .bool (((r6.1.length : Int) != (r7.1.length : Int)) || (r6.2 != r7.2)))] [] rfl ?_ ?_
    · refine sN (oM (v := (.lst _ _)) rfl ?_)
      refine sN (oLnL (f := GIdentity.lv) te46 rfl ?_)
      refine sN (oM (v := (.lst _ _)) rfl ?_)
      refine sN (oLnL (f := GIdentity.lv) te46 rfl ?_)
      refine sN (oNe rfl rfl ?_)
      refine sN (oM (v := (.bool _)) rfl ?_)
      by_cases hb9 : ((r6.1.length : Int) != (r7.1.length : Int)) = true
      · refine sF rfl rfl hb9 ?_
        refine sF rfl rfl hb9 ?_
        refine sF rfl rfl hb9 ?_
        refine sN (oPkT (congrArg LV.bool hb9) (v := (.bool _)) rfl ?_)
        exact s0 (Wk.to (eC rfl (eC rfl (eC (congrArg LV.bool (orT hb9)) eN))) mN rfl (prK rfl))
      · replace hb9 := bF hb9
        refine sT rfl (congrArg LV.bool hb9) (oM (v := (.int _ _)) rfl ?_)
        refine sT rfl (congrArg LV.bool hb9) (oM (v := (.int _ _)) rfl ?_)
        refine sT rfl (congrArg LV.bool hb9) (oNe rfl rfl ?_)
        refine sN (oPkF (congrArg LV.bool hb9) (v := (.bool _)) rfl ?_)
        exact s0 (Wk.to (eC rfl (eC rfl (eC (congrArg LV.bool (orF hb9)) eN))) mN rfl (prK rfl))
    refine LH.cond (t := (((r6.1.length : Int) != (r7.1.length : Int)) || (r6.2 != r7.2))) rfl (fun hc10 => ?_) (fun hc10 => ?_)
    · replace h := iteT h hc10
      refine LH.seqT [(2, .bool false)] [] rfl ?_ ?_
      · refine sN (oA (v := (.bool _)) rfl ?_)
        exact s0 (Wk.to (eC rfl eN) mN rfl (prK rfl))
      refine LH.ret ?_
      refine thenR ?_
      obtain rfl := Option.some.inj h
      exact retE (congrArg Array.toList Try.results10) (lrT rfl (lr0 ⟨memN mN, rfl, prK rfl, Sub.rfl⟩))
    replace h := iteF h hc10
    refine LH.skip ?_
    refine thenN ?_
    refine LH.wk (Wk.to (el := [(6, .lst 2 (List.map GIdentity.lv r6.1)), (8, .lst 2 (List.map GIdentity.lv r7.1))]) (ml := []) (eC rfl (eC rfl eN)) mN rfl (prK rfl)) ?_
    refine LH.seq ?_
    refine LH.seqT [(6, .lst 2 (List.map GIdentity.lv r6.1)), (8, .lst 2 (List.map GIdentity.lv r7.1)), (10, .int .i64 0)] [] rfl ?_ ?_
    · refine sN (oA (v := (.int _ _)) rfl ?_)
      exact s0 (Wk.to (eC rfl (eC rfl (eC rfl eN))) mN rfl (prK rfl))
    refine LH.block ?_
    refine LH.loop (fun n e m => ∃ (n11 : Int), law02_StampDisputes_L1 F r6 r7 n n11 = some r ∧ e = Env.of [(6, .lst 2 (List.map GIdentity.lv r6.1)), (8, .lst 2 (List.map GIdentity.lv r7.1)), (10, .int .i64 n11)] ∧ m = Mem.of []) F ⟨0, h, rfl, rfl⟩ ?_
    clear h
    rintro n e m ⟨n11, h, rfl, rfl⟩
    rcases n with _ | n
    · cases (show Option.none = some _ from h)
    obtain ⟨rec1, hrec1⟩ : ∃ f, f = law02_StampDisputes_L1 F r6 r7 n := ⟨_, rfl⟩
    replace h : law02_StampDisputes_L1_B F r6 r7 rec1 n11 = some r := hrec1 ▸ h
    unfold law02_StampDisputes_L1_B at h
    refine LH.seq ?_
    refine LH.seqT [(6, .lst 2 (List.map GIdentity.lv r6.1)), (8, .lst 2 (List.map GIdentity.lv r7.1)), (10, .int .i64 n11), (48, .bool (decide (n11 < (r6.1.length : Int))))] [] rfl ?_ ?_
    · refine sN (oM (v := (.int _ _)) rfl ?_)
      refine sN (oM (v := (.lst _ _)) rfl ?_)
      refine sN (oLnL (f := GIdentity.lv) te46 rfl ?_)
      refine sN (oLt rfl rfl ?_)
      exact s0 (Wk.to (eC rfl (eC rfl (eC rfl (eC rfl eN)))) mN rfl (prK rfl))
    refine LH.cond (t := (decide (n11 < (r6.1.length : Int)))) rfl (fun hc12 => ?_) (fun hc12 => ?_)
    · replace h := iteT h hc12
      refine LH.skip ?_
      refine thenN ?_
      refine LH.wk (Wk.to (el := [(6, .lst 2 (List.map GIdentity.lv r6.1)), (8, .lst 2 (List.map GIdentity.lv r7.1)), (10, .int .i64 n11)]) (ml := []) (eC rfl (eC rfl (eC rfl eN))) mN rfl (prK rfl)) ?_
      refine LH.seq ?_
      refine LH.block ?_
      obtain ⟨x13, hx13, h⟩ := bindS h
      obtain ⟨x14, hx14, h⟩ := bindS h
      refine LH.seqJM mixed [] [0, 0, 0, 0, 0, 0, 0, 0, 0] [(6, .lst 2 (List.map GIdentity.lv r6.1)), (8, .lst 2 (List.map GIdentity.lv r7.1)), (10, .int .i64 n11), (59, .bool (!(decide (x13 = x14))))] [] rfl rfl (by kernel_rfl) ?_ ?_
      · refine mN0 (oM (v := (.lst _ _)) rfl ⟨rfl, ?_⟩)
        refine mN0 (oM (v := (.int _ _)) rfl ⟨rfl, ?_⟩)
        refine mN0 (oIx (f := GIdentity.lv) te46 tk50 ts50 rfl rfl GIdentity.ok hx13 rfl ⟨rfl, ?_⟩)
        refine mN0 (oLdA rfl tk50 ta50 ts50 rfl rfl ⟨rfl, ?_⟩)
        refine mN0 (oM (v := (.lst _ _)) rfl ⟨rfl, ?_⟩)
        refine mN0 (oM (v := (.int _ _)) rfl ⟨rfl, ?_⟩)
        refine mN0 (oIx (f := GIdentity.lv) te46 tk50 ts50 rfl rfl GIdentity.ok hx14 rfl ⟨rfl, ?_⟩)
        refine mN0 (oLdA rfl tk50 ta50 ts50 rfl rfl ⟨rfl, ?_⟩)
        refine mN0 (oNeA rfl rfl (ae50 x13 x14) ⟨rfl, ?_⟩)
        exact m0 (Wk.to (eC rfl (eC rfl (eC rfl (eC rfl eN)))) mN rfl (prK rfl))
      refine LH.cond (t := (!(decide (x13 = x14)))) rfl (fun hc15 => ?_) (fun hc15 => ?_)
      · replace h := iteT h hc15
        refine LH.seqT [(2, .bool false)] [] rfl ?_ ?_
        · refine sN (oA (v := (.bool _)) rfl ?_)
          exact s0 (Wk.to (eC rfl eN) mN rfl (prK rfl))
        refine LH.ret ?_
        refine blockR ?_
        refine thenR ?_
        refine roundR ?_
        refine blockR ?_
        refine thenR ?_
        obtain rfl := Option.some.inj h
        exact retE (congrArg Array.toList Try.results10) (lrT rfl (lr0 ⟨memN mN, rfl, prK rfl, Sub.rfl⟩))
      replace h := iteF h hc15
      refine LH.skip ?_
      refine blockN ?_
      refine thenN ?_
      refine LH.wk (Wk.to (el := [(6, .lst 2 (List.map GIdentity.lv r6.1)), (8, .lst 2 (List.map GIdentity.lv r7.1)), (10, .int .i64 n11)]) (ml := []) (eC rfl (eC rfl (eC rfl eN))) mN rfl (prK rfl)) ?_
      refine LH.loneT [(6, .lst 2 (List.map GIdentity.lv r6.1)), (8, .lst 2 (List.map GIdentity.lv r7.1)), (10, .int .i64 (i64 (n11 + 1)))] [] rfl ?_ ?_
      · refine sN (oM (v := (.int _ _)) rfl ?_)
        refine sN (oAdd rfl rfl ?_)
        refine sN (oA (v := (.int _ _)) rfl ?_)
        exact s0 (Wk.to (eC rfl (eC rfl (eC rfl eN))) mN rfl (prK rfl))
      exact roundN (e' := Env.of [(6, .lst 2 (List.map GIdentity.lv r6.1)), (8, .lst 2 (List.map GIdentity.lv r7.1)), (10, .int .i64 (i64 (n11 + 1)))]) (m' := Mem.of []) (Wk.to (eC rfl (eC rfl (eC rfl eN))) mN rfl (prK rfl)) ⟨(i64 (n11 + 1)), hrec1 ▸ h, rfl, rfl⟩
    replace h := iteF h hc12
    refine LH.exit ?_
    refine thenX ?_
    refine roundX ?_
    refine blockH ?_
    refine thenN ?_
    refine LH.wk (Wk.to (el := []) (ml := []) eN mN rfl (prK rfl)) ?_
    obtain ⟨r16, hr16, h⟩ := bindS h
    refine LH.seqT [(2, .bool r16)] [] rfl ?_ ?_
    · refine sN (oCP (args := []) rfl isF16 rfl sbN (law02_awake_ok hr16) rfl ?_)
      refine sN (oA (v := (.bool _)) rfl ?_)
      exact s0 (Wk.to (eC rfl eN) mN rfl (prK rfl))
    refine LH.ret ?_
    obtain rfl := Option.some.inj h
    exact retE (congrArg Array.toList Try.results10) (lrT rfl (lr0 ⟨memN mN, rfl, prK rfl, Sub.rfl⟩))
  replace h := iteF h hc4
  refine LH.skip ?_
  refine thenN ?_
  refine LH.wk ((Wk.trans (Wk.to (el := [(4, .lst 3 (List.map GStamp.lv r2.1)), (5, .arr 149 (List.length r2.2.1))]) (ml := [(149, .arr 3 1 (List.map (LV.int .i64) r2.2.1))]) (eC rfl (eC rfl eN)) (mC rfl mN) rfl (prK rfl)) (Wk.trans (Wk.frzL (f := (LV.int .i64)) (el' := [(4, .lst 3 (List.map GStamp.lv r2.1)), (5, .lst 1 (List.map (LV.int .i64) r2.2.1))]) 149 3 1 r2.2.1 rfl rfl (prN rfl) (fK rfl (fZ fN))) (Wk.to (el := [(4, .lst 3 (List.map GStamp.lv r2.1)), (5, .lst 1 (List.map (LV.int .i64) r2.2.1))]) (ml := []) (eC rfl (eC rfl eN)) mN rfl (prK rfl))))) ?_
  obtain ⟨r17, hr17, h⟩ := bindS h
  refine LH.seqT [(4, .lst 3 (List.map GStamp.lv r2.1)), (5, .lst 1 (List.map (LV.int .i64) r2.2.1)), (6, .lst 2 (List.map GIdentity.lv r17.1)), (7, .int .i64 r17.2)] [] rfl ?_ ?_
  · refine sN (oM (v := (.lst _ _)) rfl ?_)
    refine sN (oM (v := (.lst _ _)) rfl ?_)
    refine sN (oCP (args := [.lst 3 (List.map GStamp.lv r2.1), .lst 1 (List.map (LV.int .i64) r2.2.1)]) rfl isF30 rfl (sbR (sbR sbN)) (stamp_Disputed_ok hr17) rfl ?_)
    refine sN (oM (v := (.tup _)) rfl ?_)
    refine sN (oEx rfl rfl ?_)
    refine sN (oEx rfl rfl ?_)
    refine sN (oA (v := (.lst _ _)) rfl ?_)
    refine sN (oA (v := (.int _ _)) rfl ?_)
    exact s0 (Wk.to (eC rfl (eC rfl (eC rfl (eC rfl eN)))) mN rfl (prK rfl))
  obtain ⟨r18, hr18, h⟩ := bindS h
  refine LH.seqT [(6, .lst 2 (List.map GIdentity.lv r17.1)), (7, .int .i64 r17.2), (8, .lst 2 (List.map GIdentity.lv r18.1)), (9, .int .i64 r18.2)] [] rfl ?_ ?_
  · refine sN (oM (v := (.lst _ _)) rfl ?_)
    refine sN (oM (v := (.lst _ _)) rfl ?_)
    refine sN (oCP (args := [.lst 3 (List.map GStamp.lv r2.1), .lst 1 (List.map (LV.int .i64) r2.2.1)]) rfl isF31 rfl (sbR (sbR sbN)) (ref02_Disputed_ok hr18) rfl ?_)
    refine sN (oM (v := (.tup _)) rfl ?_)
    refine sN (oEx rfl rfl ?_)
    refine sN (oEx rfl rfl ?_)
    refine sN (oA (v := (.lst _ _)) rfl ?_)
    refine sN (oA (v := (.int _ _)) rfl ?_)
    exact s0 (Wk.to (eC rfl (eC rfl (eC rfl (eC rfl eN)))) mN rfl (prK rfl))
  refine LH.seq ?_
  refine LH.seqT [(6, .lst 2 (List.map GIdentity.lv r17.1)), (8, .lst 2 (List.map GIdentity.lv r18.1)), (44, .bool (((r17.1.length : Int) != (r18.1.length : Int)) || (r17.2 != r18.2)))] [] rfl ?_ ?_
  · refine sN (oM (v := (.lst _ _)) rfl ?_)
    refine sN (oLnL (f := GIdentity.lv) te46 rfl ?_)
    refine sN (oM (v := (.lst _ _)) rfl ?_)
    refine sN (oLnL (f := GIdentity.lv) te46 rfl ?_)
    refine sN (oNe rfl rfl ?_)
    refine sN (oM (v := (.bool _)) rfl ?_)
    by_cases hb20 : ((r17.1.length : Int) != (r18.1.length : Int)) = true
    · refine sF rfl rfl hb20 ?_
      refine sF rfl rfl hb20 ?_
      refine sF rfl rfl hb20 ?_
      refine sN (oPkT (congrArg LV.bool hb20) (v := (.bool _)) rfl ?_)
      exact s0 (Wk.to (eC rfl (eC rfl (eC (congrArg LV.bool (orT hb20)) eN))) mN rfl (prK rfl))
    · replace hb20 := bF hb20
      refine sT rfl (congrArg LV.bool hb20) (oM (v := (.int _ _)) rfl ?_)
      refine sT rfl (congrArg LV.bool hb20) (oM (v := (.int _ _)) rfl ?_)
      refine sT rfl (congrArg LV.bool hb20) (oNe rfl rfl ?_)
      refine sN (oPkF (congrArg LV.bool hb20) (v := (.bool _)) rfl ?_)
      exact s0 (Wk.to (eC rfl (eC rfl (eC (congrArg LV.bool (orF hb20)) eN))) mN rfl (prK rfl))
  refine LH.cond (t := (((r17.1.length : Int) != (r18.1.length : Int)) || (r17.2 != r18.2))) rfl (fun hc21 => ?_) (fun hc21 => ?_)
  · replace h := iteT h hc21
    refine LH.seqT [(2, .bool false)] [] rfl ?_ ?_
    · refine sN (oA (v := (.bool _)) rfl ?_)
      exact s0 (Wk.to (eC rfl eN) mN rfl (prK rfl))
    refine LH.ret ?_
    refine thenR ?_
    obtain rfl := Option.some.inj h
    exact retE (congrArg Array.toList Try.results10) (lrT rfl (lr0 ⟨memN mN, rfl, prK rfl, Sub.rfl⟩))
  replace h := iteF h hc21
  refine LH.skip ?_
  refine thenN ?_
  refine LH.wk (Wk.to (el := [(6, .lst 2 (List.map GIdentity.lv r17.1)), (8, .lst 2 (List.map GIdentity.lv r18.1))]) (ml := []) (eC rfl (eC rfl eN)) mN rfl (prK rfl)) ?_
  refine LH.seq ?_
  refine LH.seqT [(6, .lst 2 (List.map GIdentity.lv r17.1)), (8, .lst 2 (List.map GIdentity.lv r18.1)), (10, .int .i64 0)] [] rfl ?_ ?_
  · refine sN (oA (v := (.int _ _)) rfl ?_)
    exact s0 (Wk.to (eC rfl (eC rfl (eC rfl eN))) mN rfl (prK rfl))
  refine LH.block ?_
  refine LH.loop (fun n e m => ∃ (n22 : Int), law02_StampDisputes_L2 F r17 r18 n n22 = some r ∧ e = Env.of [(6, .lst 2 (List.map GIdentity.lv r17.1)), (8, .lst 2 (List.map GIdentity.lv r18.1)), (10, .int .i64 n22)] ∧ m = Mem.of []) F ⟨0, h, rfl, rfl⟩ ?_
  clear h
  rintro n e m ⟨n22, h, rfl, rfl⟩
  rcases n with _ | n
  · cases (show Option.none = some _ from h)
  obtain ⟨rec2, hrec2⟩ : ∃ f, f = law02_StampDisputes_L2 F r17 r18 n := ⟨_, rfl⟩
  replace h : law02_StampDisputes_L2_B F r17 r18 rec2 n22 = some r := hrec2 ▸ h
  unfold law02_StampDisputes_L2_B at h
  refine LH.seq ?_
  refine LH.seqT [(6, .lst 2 (List.map GIdentity.lv r17.1)), (8, .lst 2 (List.map GIdentity.lv r18.1)), (10, .int .i64 n22), (48, .bool (decide (n22 < (r17.1.length : Int))))] [] rfl ?_ ?_
  · refine sN (oM (v := (.int _ _)) rfl ?_)
    refine sN (oM (v := (.lst _ _)) rfl ?_)
    refine sN (oLnL (f := GIdentity.lv) te46 rfl ?_)
    refine sN (oLt rfl rfl ?_)
    exact s0 (Wk.to (eC rfl (eC rfl (eC rfl (eC rfl eN)))) mN rfl (prK rfl))
  refine LH.cond (t := (decide (n22 < (r17.1.length : Int)))) rfl (fun hc23 => ?_) (fun hc23 => ?_)
  · replace h := iteT h hc23
    refine LH.skip ?_
    refine thenN ?_
    refine LH.wk (Wk.to (el := [(6, .lst 2 (List.map GIdentity.lv r17.1)), (8, .lst 2 (List.map GIdentity.lv r18.1)), (10, .int .i64 n22)]) (ml := []) (eC rfl (eC rfl (eC rfl eN))) mN rfl (prK rfl)) ?_
    refine LH.seq ?_
    refine LH.block ?_
    obtain ⟨x24, hx24, h⟩ := bindS h
    obtain ⟨x25, hx25, h⟩ := bindS h
    refine LH.seqJM mixed [] [0, 0, 0, 0, 0, 0, 0, 0, 0] [(6, .lst 2 (List.map GIdentity.lv r17.1)), (8, .lst 2 (List.map GIdentity.lv r18.1)), (10, .int .i64 n22), (59, .bool (!(decide (x24 = x25))))] [] rfl rfl (by kernel_rfl) ?_ ?_
    · refine mN0 (oM (v := (.lst _ _)) rfl ⟨rfl, ?_⟩)
      refine mN0 (oM (v := (.int _ _)) rfl ⟨rfl, ?_⟩)
      refine mN0 (oIx (f := GIdentity.lv) te46 tk50 ts50 rfl rfl GIdentity.ok hx24 rfl ⟨rfl, ?_⟩)
      refine mN0 (oLdA rfl tk50 ta50 ts50 rfl rfl ⟨rfl, ?_⟩)
      refine mN0 (oM (v := (.lst _ _)) rfl ⟨rfl, ?_⟩)
      refine mN0 (oM (v := (.int _ _)) rfl ⟨rfl, ?_⟩)
      refine mN0 (oIx (f := GIdentity.lv) te46 tk50 ts50 rfl rfl GIdentity.ok hx25 rfl ⟨rfl, ?_⟩)
      refine mN0 (oLdA rfl tk50 ta50 ts50 rfl rfl ⟨rfl, ?_⟩)
      refine mN0 (oNeA rfl rfl (ae50 x24 x25) ⟨rfl, ?_⟩)
      exact m0 (Wk.to (eC rfl (eC rfl (eC rfl (eC rfl eN)))) mN rfl (prK rfl))
    refine LH.cond (t := (!(decide (x24 = x25)))) rfl (fun hc26 => ?_) (fun hc26 => ?_)
    · replace h := iteT h hc26
      refine LH.seqT [(2, .bool false)] [] rfl ?_ ?_
      · refine sN (oA (v := (.bool _)) rfl ?_)
        exact s0 (Wk.to (eC rfl eN) mN rfl (prK rfl))
      refine LH.ret ?_
      refine blockR ?_
      refine thenR ?_
      refine roundR ?_
      refine blockR ?_
      refine thenR ?_
      obtain rfl := Option.some.inj h
      exact retE (congrArg Array.toList Try.results10) (lrT rfl (lr0 ⟨memN mN, rfl, prK rfl, Sub.rfl⟩))
    replace h := iteF h hc26
    refine LH.skip ?_
    refine blockN ?_
    refine thenN ?_
    refine LH.wk (Wk.to (el := [(6, .lst 2 (List.map GIdentity.lv r17.1)), (8, .lst 2 (List.map GIdentity.lv r18.1)), (10, .int .i64 n22)]) (ml := []) (eC rfl (eC rfl (eC rfl eN))) mN rfl (prK rfl)) ?_
    refine LH.loneT [(6, .lst 2 (List.map GIdentity.lv r17.1)), (8, .lst 2 (List.map GIdentity.lv r18.1)), (10, .int .i64 (i64 (n22 + 1)))] [] rfl ?_ ?_
    · refine sN (oM (v := (.int _ _)) rfl ?_)
      refine sN (oAdd rfl rfl ?_)
      refine sN (oA (v := (.int _ _)) rfl ?_)
      exact s0 (Wk.to (eC rfl (eC rfl (eC rfl eN))) mN rfl (prK rfl))
    exact roundN (e' := Env.of [(6, .lst 2 (List.map GIdentity.lv r17.1)), (8, .lst 2 (List.map GIdentity.lv r18.1)), (10, .int .i64 (i64 (n22 + 1)))]) (m' := Mem.of []) (Wk.to (eC rfl (eC rfl (eC rfl eN))) mN rfl (prK rfl)) ⟨(i64 (n22 + 1)), hrec2 ▸ h, rfl, rfl⟩
  replace h := iteF h hc23
  refine LH.exit ?_
  refine thenX ?_
  refine roundX ?_
  refine blockH ?_
  refine thenN ?_
  refine LH.wk (Wk.to (el := []) (ml := []) eN mN rfl (prK rfl)) ?_
  obtain ⟨r27, hr27, h⟩ := bindS h
  refine LH.seqT [(2, .bool r27)] [] rfl ?_ ?_
  · refine sN (oCP (args := []) rfl isF16 rfl sbN (law02_awake_ok hr27) rfl ?_)
    refine sN (oA (v := (.bool _)) rfl ?_)
    exact s0 (Wk.to (eC rfl eN) mN rfl (prK rfl))
  refine LH.ret ?_
  obtain rfl := Option.some.inj h
  exact retE (congrArg Array.toList Try.results10) (lrT rfl (lr0 ⟨memN mN, rfl, prK rfl, Sub.rfl⟩))

theorem law02_StampGrows_ok {F : Nat} {p0 : List Int} {r : Bool} (h : law02_StampGrows F p0 = some r) : LCall Try.prog 11 [.lst 1 (List.map (LV.int .i64) p0)] (Mem.of []) (.bool r) (Mem.of []) := by
  unfold law02_StampGrows at h
  refine bodyT Try.func11 rfl (by rw [Try.ntmps11]; exact Nat.le_of_ble_eq_true rfl) ?_
  refine LH.wk (Wk.to (el := [(0, .lst 1 (List.map (LV.int .i64) p0))]) (ml := []) (eC rfl eN) mN rfl (prK rfl)) ?_
  refine LH.seqT [(0, .lst 1 (List.map (LV.int .i64) p0))] [] rfl ?_ ?_
  · refine sN (oA (v := (.bool _)) rfl ?_)
    exact s0 (Wk.to (eC rfl eN) mN rfl (prK rfl))
  obtain ⟨r1, hr1, h⟩ := bindS h
  refine LH.seqT [(3, .ptr 7 0)] [(7, .box [.lst 1 (List.map (LV.int .i64) r1.L), .int .i64 r1.At])] rfl ?_ ?_
  · refine sN (oM (v := (.lst _ _)) rfl ?_)
    refine sN (oCM (args := [.lst 1 (List.map (LV.int .i64) p0)]) (ml := []) (ml' := [(7, .box [.lst 1 (List.map (LV.int .i64) r1.L), .int .i64 r1.At])]) rfl isF17 rfl (sbR sbN) (make_New_ok hr1) mN (newF rfl newN) rfl ?_)
    refine sN (oA (v := (.ptr _ _)) rfl ?_)
    exact s0 (Wk.to (eC rfl eN) (mC rfl mN) rfl (prK rfl))
  obtain ⟨r2, hr2, h⟩ := bindS h
  refine LH.seqT [(3, .ptr 7 0), (4, .lst 3 (List.map GStamp.lv r2.1)), (5, .lst 1 (List.map (LV.int .i64) r2.2.1))] [(7, .box [.lst 1 (List.map (LV.int .i64) r2.2.2.L), .int .i64 r2.2.2.At])] rfl ?_ ?_
  · refine sN (oM (v := (.ptr _ _)) rfl ?_)
    refine sN (oCM (args := [.ptr 7 0, .int .i64 12, .int .i64 8]) (ml := [(7, .box [.lst 1 (List.map (LV.int .i64) r1.L), .int .i64 r1.At])]) (ml' := [(7, .box [.lst 1 (List.map (LV.int .i64) r2.2.2.L), .int .i64 r2.2.2.At]), (145, .arr 23 3 (List.map GStamp.lv r2.1)), (149, .arr 3 1 (List.map (LV.int .i64) r2.2.1))]) rfl isF18 rfl (sbR (sbR (sbR sbN))) (law02_events_ok hr2) (mC rfl mN) (newI rfl (newF rfl (newF rfl newN))) rfl ?_)
    refine sN (oM (v := (.tup _)) rfl ?_)
    refine sN (oEx rfl rfl ?_)
    refine sN (oEx rfl rfl ?_)
    refine sN (oA (v := (.arr _ _)) rfl ?_)
    refine sN (oA (v := (.arr _ _)) rfl ?_)
    exact s0 ((Wk.trans (Wk.to (el := [(3, .ptr 7 0), (4, .arr 145 (List.length r2.1)), (5, .arr 149 (List.length r2.2.1))]) (ml := [(7, .box [.lst 1 (List.map (LV.int .i64) r2.2.2.L), .int .i64 r2.2.2.At]), (145, .arr 23 3 (List.map GStamp.lv r2.1)), (149, .arr 3 1 (List.map (LV.int .i64) r2.2.1))]) (eC rfl (eC rfl (eC rfl eN))) (mC rfl (mC rfl (mC rfl mN))) rfl (prK rfl)) (Wk.trans (Wk.frzL (f := GStamp.lv) (el' := [(3, .ptr 7 0), (4, .lst 3 (List.map GStamp.lv r2.1)), (5, .arr 149 (List.length r2.2.1))]) 145 23 3 r2.1 rfl rfl (prN rfl) (fK rfl (fZ (fK rfl fN)))) (Wk.trans (Wk.frzL (f := (LV.int .i64)) (el' := [(3, .ptr 7 0), (4, .lst 3 (List.map GStamp.lv r2.1)), (5, .lst 1 (List.map (LV.int .i64) r2.2.1))]) 149 3 1 r2.2.1 rfl rfl (prN rfl) (fK rfl (fK rfl (fZ fN)))) (Wk.to (eC rfl (eC rfl (eC rfl eN))) (mC rfl mN) rfl (prK rfl))))))
  obtain ⟨r3, hr3, h⟩ := bindS h
  obtain ⟨r4, hr4, h⟩ := bindS h
  refine LH.seqT [(4, .lst 3 (List.map GStamp.lv r2.1)), (5, .lst 1 (List.map (LV.int .i64) r2.2.1)), (6, .lst 1 (List.map (LV.int .i64) r4.1)), (7, .int .i64 r4.2)] [] rfl ?_ ?_
  · refine sN (oM (v := (.lst _ _)) rfl ?_)
    refine sN (oM (v := (.lst _ _)) rfl ?_)
    refine sN (oM (v := (.ptr _ _)) rfl ?_)
    refine sN (oM (v := (.lst _ _)) rfl ?_)
    refine sN (oLnL (f := GStamp.lv) te31 rfl ?_)
    refine sN (oCM (args := [.ptr 7 0, .int .i64 0, .int .i64 (r2.1.length : Int)]) (ml := [(7, .box [.lst 1 (List.map (LV.int .i64) r2.2.2.L), .int .i64 r2.2.2.At])]) (ml' := [(7, .box [.lst 1 (List.map (LV.int .i64) r3.2.L), .int .i64 r3.2.At])]) rfl isF23 rfl (sbR (sbR (sbR sbN))) (GTape_Range_ok hr3) (mC rfl mN) (newI rfl newN) rfl ?_)
    refine sN (oCP (args := [.lst 3 (List.map GStamp.lv r2.1), .lst 1 (List.map (LV.int .i64) r2.2.1), .int .i64 r3.1]) rfl isF24 rfl (sbR (sbR (sbR sbN))) (stamp_Known_ok hr4) rfl ?_)
    refine sN (oM (v := (.tup _)) rfl ?_)
    refine sN (oEx rfl rfl ?_)
    refine sN (oEx rfl rfl ?_)
    refine sN (oA (v := (.lst _ _)) rfl ?_)
    refine sN (oA (v := (.int _ _)) rfl ?_)
    exact s0 (Wk.to (eC rfl (eC rfl (eC rfl (eC rfl eN)))) mN rfl (prK rfl))
  obtain ⟨r5, hr5, h⟩ := bindS h
  refine LH.seqT [(4, .lst 3 (List.map GStamp.lv r2.1)), (5, .lst 1 (List.map (LV.int .i64) r2.2.1)), (6, .lst 1 (List.map (LV.int .i64) r4.1)), (7, .int .i64 r4.2), (8, .lst 1 (List.map (LV.int .i64) r5.1)), (9, .int .i64 r5.2)] [] rfl ?_ ?_
  · refine sN (oM (v := (.lst _ _)) rfl ?_)
    refine sN (oM (v := (.lst _ _)) rfl ?_)
    refine sN (oCP (args := [.lst 3 (List.map GStamp.lv r2.1), .lst 1 (List.map (LV.int .i64) r2.2.1)]) rfl isF20 rfl (sbR (sbR sbN)) (stamp_Canonical_ok hr5) rfl ?_)
    refine sN (oM (v := (.tup _)) rfl ?_)
    refine sN (oEx rfl rfl ?_)
    refine sN (oEx rfl rfl ?_)
    refine sN (oA (v := (.lst _ _)) rfl ?_)
    refine sN (oA (v := (.int _ _)) rfl ?_)
    exact s0 (Wk.to (eC rfl (eC rfl (eC rfl (eC rfl (eC rfl (eC rfl eN)))))) mN rfl (prK rfl))
  obtain ⟨r6, hr6, h⟩ := bindS h
  refine LH.seqT [(4, .lst 3 (List.map GStamp.lv r2.1)), (6, .lst 1 (List.map (LV.int .i64) r4.1)), (7, .int .i64 r4.2), (8, .lst 1 (List.map (LV.int .i64) r5.1)), (9, .int .i64 r5.2), (10, .lst 2 (List.map GIdentity.lv r6.1)), (11, .int .i64 r6.2)] [] rfl ?_ ?_
  · refine sN (oM (v := (.lst _ _)) rfl ?_)
    refine sN (oM (v := (.lst _ _)) rfl ?_)
    refine sN (oCP (args := [.lst 3 (List.map GStamp.lv r2.1), .lst 1 (List.map (LV.int .i64) r2.2.1)]) rfl isF30 rfl (sbR (sbR sbN)) (stamp_Disputed_ok hr6) rfl ?_)
    refine sN (oM (v := (.tup _)) rfl ?_)
    refine sN (oEx rfl rfl ?_)
    refine sN (oEx rfl rfl ?_)
    refine sN (oA (v := (.lst _ _)) rfl ?_)
    refine sN (oA (v := (.int _ _)) rfl ?_)
    exact s0 (Wk.to (eC rfl (eC rfl (eC rfl (eC rfl (eC rfl (eC rfl (eC rfl eN))))))) mN rfl (prK rfl))
  refine LH.seq ?_
  refine LH.seqT [(4, .lst 3 (List.map GStamp.lv r2.1)), (6, .lst 1 (List.map (LV.int .i64) r4.1)), (8, .lst 1 (List.map (LV.int .i64) r5.1)), (10, .lst 2 (List.map GIdentity.lv r6.1)), (54, .bool ((r4.2 != 0) || ((r5.2 != 0) || (r6.2 != 0))))] [] rfl ?_ ?_
  · refine sN (oM (v := (.int _ _)) rfl ?_)
    refine sN (oNe rfl rfl ?_)
    refine sN (oM (v := (.bool _)) rfl ?_)
    by_cases hb8 : (r4.2 != 0) = true
    · refine sF rfl rfl hb8 ?_
      refine sF rfl rfl hb8 ?_
      refine sN (oPkT (congrArg LV.bool hb8) (v := (.bool _)) rfl ?_)
      refine sN (oM (v := (.bool _)) rfl ?_)
      refine sF rfl rfl rfl ?_
      refine sF rfl rfl rfl ?_
      refine sN (oPkT rfl (v := (.bool _)) rfl ?_)
      exact s0 (Wk.to (eC rfl (eC rfl (eC rfl (eC rfl (eC (congrArg LV.bool (orT hb8)) eN))))) mN rfl (prK rfl))
    · replace hb8 := bF hb8
      refine sT rfl (congrArg LV.bool hb8) (oM (v := (.int _ _)) rfl ?_)
      refine sT rfl (congrArg LV.bool hb8) (oNe rfl rfl ?_)
      refine sN (oPkF (congrArg LV.bool hb8) (v := (.bool _)) rfl ?_)
      refine sN (oM (v := (.bool _)) rfl ?_)
      by_cases hb9 : (r5.2 != 0) = true
      · refine sF rfl rfl hb9 ?_
        refine sF rfl rfl hb9 ?_
        refine sN (oPkT (congrArg LV.bool hb9) (v := (.bool _)) rfl ?_)
        exact s0 (Wk.to (eC rfl (eC rfl (eC rfl (eC rfl (eC (congrArg LV.bool (Eq.trans (orT hb9) (orF hb8))) eN))))) mN rfl (prK rfl))
      · replace hb9 := bF hb9
        refine sT rfl (congrArg LV.bool hb9) (oM (v := (.int _ _)) rfl ?_)
        refine sT rfl (congrArg LV.bool hb9) (oNe rfl rfl ?_)
        refine sN (oPkF (congrArg LV.bool hb9) (v := (.bool _)) rfl ?_)
        exact s0 (Wk.to (eC rfl (eC rfl (eC rfl (eC rfl (eC (congrArg LV.bool (Eq.trans (orF hb9) (orF hb8))) eN))))) mN rfl (prK rfl))
  refine LH.cond (t := ((r4.2 != 0) || ((r5.2 != 0) || (r6.2 != 0)))) rfl (fun hc10 => ?_) (fun hc10 => ?_)
  · replace h := iteT h hc10
    refine LH.seqT [(2, .bool false)] [] rfl ?_ ?_
    · refine sN (oA (v := (.bool _)) rfl ?_)
      exact s0 (Wk.to (eC rfl eN) mN rfl (prK rfl))
    refine LH.ret ?_
    refine thenR ?_
    obtain rfl := Option.some.inj h
    exact retE (congrArg Array.toList Try.results11) (lrT rfl (lr0 ⟨memN mN, rfl, prK rfl, Sub.rfl⟩))
  replace h := iteF h hc10
  refine LH.skip ?_
  refine thenN ?_
  refine LH.wk (Wk.to (el := [(4, .lst 3 (List.map GStamp.lv r2.1)), (6, .lst 1 (List.map (LV.int .i64) r4.1)), (8, .lst 1 (List.map (LV.int .i64) r5.1)), (10, .lst 2 (List.map GIdentity.lv r6.1))]) (ml := []) (eC rfl (eC rfl (eC rfl (eC rfl eN)))) mN rfl (prK rfl)) ?_
  refine LH.seq ?_
  refine LH.seqT [(4, .lst 3 (List.map GStamp.lv r2.1)), (6, .lst 1 (List.map (LV.int .i64) r4.1)), (8, .lst 1 (List.map (LV.int .i64) r5.1)), (10, .lst 2 (List.map GIdentity.lv r6.1)), (12, .int .i64 0)] [] rfl ?_ ?_
  · refine sN (oA (v := (.int _ _)) rfl ?_)
    exact s0 (Wk.to (eC rfl (eC rfl (eC rfl (eC rfl (eC rfl eN))))) mN rfl (prK rfl))
  refine LH.block ?_
  refine LH.loop (fun n e m => ∃ (n11 : Int), law02_StampGrows_L1 F r2 r4 r5 r6 n n11 = some r ∧ e = Env.of [(4, .lst 3 (List.map GStamp.lv r2.1)), (6, .lst 1 (List.map (LV.int .i64) r4.1)), (8, .lst 1 (List.map (LV.int .i64) r5.1)), (10, .lst 2 (List.map GIdentity.lv r6.1)), (12, .int .i64 n11)] ∧ m = Mem.of []) F ⟨0, h, rfl, rfl⟩ ?_
  clear h
  rintro n e m ⟨n11, h, rfl, rfl⟩
  rcases n with _ | n
  · cases (show Option.none = some _ from h)
  obtain ⟨rec1, hrec1⟩ : ∃ f, f = law02_StampGrows_L1 F r2 r4 r5 r6 n := ⟨_, rfl⟩
  replace h : law02_StampGrows_L1_B F r2 r4 r5 r6 rec1 n11 = some r := hrec1 ▸ h
  unfold law02_StampGrows_L1_B at h
  refine LH.seq ?_
  refine LH.seqT [(4, .lst 3 (List.map GStamp.lv r2.1)), (6, .lst 1 (List.map (LV.int .i64) r4.1)), (8, .lst 1 (List.map (LV.int .i64) r5.1)), (10, .lst 2 (List.map GIdentity.lv r6.1)), (12, .int .i64 n11), (58, .bool (decide (n11 < (r4.1.length : Int))))] [] rfl ?_ ?_
  · refine sN (oM (v := (.int _ _)) rfl ?_)
    refine sN (oM (v := (.lst _ _)) rfl ?_)
    refine sN (oLnL (f := (LV.int .i64)) te28 rfl ?_)
    refine sN (oLt rfl rfl ?_)
    exact s0 (Wk.to (eC rfl (eC rfl (eC rfl (eC rfl (eC rfl (eC rfl eN)))))) mN rfl (prK rfl))
  refine LH.cond (t := (decide (n11 < (r4.1.length : Int)))) rfl (fun hc12 => ?_) (fun hc12 => ?_)
  · replace h := iteT h hc12
    refine LH.skip ?_
    refine thenN ?_
    refine LH.wk (Wk.to (el := [(4, .lst 3 (List.map GStamp.lv r2.1)), (6, .lst 1 (List.map (LV.int .i64) r4.1)), (8, .lst 1 (List.map (LV.int .i64) r5.1)), (10, .lst 2 (List.map GIdentity.lv r6.1)), (12, .int .i64 n11)]) (ml := []) (eC rfl (eC rfl (eC rfl (eC rfl (eC rfl eN))))) mN rfl (prK rfl)) ?_
    refine LH.seq ?_
    refine LH.block ?_
    refine LH.seqT [(4, .lst 3 (List.map GStamp.lv r2.1)), (6, .lst 1 (List.map (LV.int .i64) r4.1)), (8, .lst 1 (List.map (LV.int .i64) r5.1)), (10, .lst 2 (List.map GIdentity.lv r6.1)), (12, .int .i64 n11), (13, .bool false)] [] rfl ?_ ?_
    · refine sN (oA (v := (.bool _)) rfl ?_)
      exact s0 (Wk.to (eC rfl (eC rfl (eC rfl (eC rfl (eC rfl (eC rfl eN)))))) mN rfl (prK rfl))
    refine LH.seq ?_
    obtain ⟨w14, hv, h⟩ := bindS h
    refine LH.seqT [(4, .lst 3 (List.map GStamp.lv r2.1)), (6, .lst 1 (List.map (LV.int .i64) r4.1)), (8, .lst 1 (List.map (LV.int .i64) r5.1)), (10, .lst 2 (List.map GIdentity.lv r6.1)), (12, .int .i64 n11), (13, .bool false), (74, .bool w14)] [] rfl ?_ ?_
    · refine sN (oM (v := (.lst _ _)) rfl ?_)
      refine sN (oM (v := (.int _ _)) rfl ?_)
      obtain ⟨x15, hx15, hv⟩ := bindS hv
      refine sN (oIx (f := (LV.int .i64)) te28 tk3 ts3 rfl rfl okI hx15 rfl ?_)
      refine sN (oLd rfl tk3 ta3 ?_)
      refine sN (oLt rfl rfl ?_)
      refine sN (oM (v := (.bool _)) rfl ?_)
      by_cases hb16 : (decide (x15 < 0)) = true
      · replace hv := iteT hv hb16
        refine sF rfl rfl hb16 ?_
        refine sF rfl rfl hb16 ?_
        refine sF rfl rfl hb16 ?_
        refine sF rfl rfl hb16 ?_
        refine sF rfl rfl hb16 ?_
        refine sF rfl rfl hb16 ?_
        refine sF rfl rfl hb16 ?_
        refine sN (oPkT (congrArg LV.bool hb16) (v := (.bool _)) rfl ?_)
        obtain rfl := Option.some.inj hv
        exact s0 (Wk.to (eC rfl (eC rfl (eC rfl (eC rfl (eC rfl (eC rfl (eC rfl eN))))))) mN rfl (prK rfl))
      · replace hb16 := bF hb16
        replace hv := iteF hv hb16
        refine sT rfl (congrArg LV.bool hb16) (oM (v := (.lst _ _)) rfl ?_)
        refine sT rfl (congrArg LV.bool hb16) (oM (v := (.int _ _)) rfl ?_)
        obtain ⟨x17, hx17, hv⟩ := bindS hv
        refine sT rfl (congrArg LV.bool hb16) (oIx (f := (LV.int .i64)) te28 tk3 ts3 rfl rfl okI hx17 rfl ?_)
        refine sT rfl (congrArg LV.bool hb16) (oLd rfl tk3 ta3 ?_)
        refine sT rfl (congrArg LV.bool hb16) (oM (v := (.lst _ _)) rfl ?_)
        refine sT rfl (congrArg LV.bool hb16) (oLnL (f := GStamp.lv) te31 rfl ?_)
        refine sT rfl (congrArg LV.bool hb16) (oGe rfl rfl ?_)
        refine sN (oPkF (congrArg LV.bool hb16) (v := (.bool _)) rfl ?_)
        obtain rfl := Option.some.inj hv
        exact s0 (Wk.to (eC rfl (eC rfl (eC rfl (eC rfl (eC rfl (eC rfl (eC rfl eN))))))) mN rfl (prK rfl))
    clear hv
    refine LH.cond (t := w14) rfl (fun hc18 => ?_) (fun hc18 => ?_)
    · replace h := iteT h hc18
      refine LH.seqT [(2, .bool false)] [] rfl ?_ ?_
      · refine sN (oA (v := (.bool _)) rfl ?_)
        exact s0 (Wk.to (eC rfl eN) mN rfl (prK rfl))
      refine LH.ret ?_
      refine thenR ?_
      refine blockR ?_
      refine thenR ?_
      refine roundR ?_
      refine blockR ?_
      refine thenR ?_
      obtain rfl := Option.some.inj h
      exact retE (congrArg Array.toList Try.results11) (lrT rfl (lr0 ⟨memN mN, rfl, prK rfl, Sub.rfl⟩))
    replace h := iteF h hc18
    refine LH.skip ?_
    refine thenN ?_
    refine LH.wk (Wk.to (el := [(4, .lst 3 (List.map GStamp.lv r2.1)), (6, .lst 1 (List.map (LV.int .i64) r4.1)), (8, .lst 1 (List.map (LV.int .i64) r5.1)), (10, .lst 2 (List.map GIdentity.lv r6.1)), (12, .int .i64 n11), (13, .bool false)]) (ml := []) (eC rfl (eC rfl (eC rfl (eC rfl (eC rfl (eC rfl eN)))))) mN rfl (prK rfl)) ?_
    refine LH.seq ?_
    refine LH.seqT [(4, .lst 3 (List.map GStamp.lv r2.1)), (6, .lst 1 (List.map (LV.int .i64) r4.1)), (8, .lst 1 (List.map (LV.int .i64) r5.1)), (10, .lst 2 (List.map GIdentity.lv r6.1)), (12, .int .i64 n11), (13, .bool false), (14, .int .i64 0)] [] rfl ?_ ?_
    · refine sN (oA (v := (.int _ _)) rfl ?_)
      exact s0 (Wk.to (eC rfl (eC rfl (eC rfl (eC rfl (eC rfl (eC rfl (eC rfl eN))))))) mN rfl (prK rfl))
    refine LH.block ?_
    refine LH.loop (fun n e m => ∃ (b19 : Bool) (n20 : Int), law02_StampGrows_L2 rec1 F r2 r4 r5 r6 n11 n b19 n20 = some r ∧ e = Env.of [(4, .lst 3 (List.map GStamp.lv r2.1)), (6, .lst 1 (List.map (LV.int .i64) r4.1)), (8, .lst 1 (List.map (LV.int .i64) r5.1)), (10, .lst 2 (List.map GIdentity.lv r6.1)), (12, .int .i64 n11), (13, .bool b19), (14, .int .i64 n20)] ∧ m = Mem.of []) F ⟨false, 0, h, rfl, rfl⟩ ?_
    clear h
    rintro n e m ⟨b19, n20, h, rfl, rfl⟩
    rcases n with _ | n
    · cases (show Option.none = some _ from h)
    obtain ⟨rec2, hrec2⟩ : ∃ f, f = law02_StampGrows_L2 rec1 F r2 r4 r5 r6 n11 n := ⟨_, rfl⟩
    replace h : law02_StampGrows_L2_B rec1 F r2 r4 r5 r6 n11 rec2 b19 n20 = some r := hrec2 ▸ h
    unfold law02_StampGrows_L2_B at h
    refine LH.seq ?_
    refine LH.seqT [(4, .lst 3 (List.map GStamp.lv r2.1)), (6, .lst 1 (List.map (LV.int .i64) r4.1)), (8, .lst 1 (List.map (LV.int .i64) r5.1)), (10, .lst 2 (List.map GIdentity.lv r6.1)), (12, .int .i64 n11), (13, .bool b19), (14, .int .i64 n20), (78, .bool (decide (n20 < (r5.1.length : Int))))] [] rfl ?_ ?_
    · refine sN (oM (v := (.int _ _)) rfl ?_)
      refine sN (oM (v := (.lst _ _)) rfl ?_)
      refine sN (oLnL (f := (LV.int .i64)) te28 rfl ?_)
      refine sN (oLt rfl rfl ?_)
      exact s0 (Wk.to (eC rfl (eC rfl (eC rfl (eC rfl (eC rfl (eC rfl (eC rfl (eC rfl eN)))))))) mN rfl (prK rfl))
    refine LH.cond (t := (decide (n20 < (r5.1.length : Int)))) rfl (fun hc21 => ?_) (fun hc21 => ?_)
    · replace h := iteT h hc21
      refine LH.skip ?_
      refine thenN ?_
      refine LH.wk (Wk.to (el := [(4, .lst 3 (List.map GStamp.lv r2.1)), (6, .lst 1 (List.map (LV.int .i64) r4.1)), (8, .lst 1 (List.map (LV.int .i64) r5.1)), (10, .lst 2 (List.map GIdentity.lv r6.1)), (12, .int .i64 n11), (13, .bool b19), (14, .int .i64 n20)]) (ml := []) (eC rfl (eC rfl (eC rfl (eC rfl (eC rfl (eC rfl (eC rfl eN))))))) mN rfl (prK rfl)) ?_
      refine LH.seq ?_
      refine LH.block ?_
      obtain ⟨w23, hv, h⟩ := bindS h
      refine LH.loneTM mixed [] [0, 0, 0, 0, 0, 0, 0, 0, 0, 0, 0, 0, 0] [(4, .lst 3 (List.map GStamp.lv r2.1)), (6, .lst 1 (List.map (LV.int .i64) r4.1)), (8, .lst 1 (List.map (LV.int .i64) r5.1)), (10, .lst 2 (List.map GIdentity.lv r6.1)), (12, .int .i64 n11), (13, .bool w23), (14, .int .i64 n20)] [] rfl rfl (by kernel_rfl) ?_ ?_
      · refine mN0 (oM (v := (.bool _)) rfl ⟨rfl, ?_⟩)
        refine mN0 (oM (v := (.bool _)) rfl ⟨rfl, ?_⟩)
        by_cases hb24 : b19 = true
        · replace hv := iteT hv hb24
          refine mF rfl rfl hb24 ?_
          refine mF rfl rfl hb24 ?_
          refine mF rfl rfl hb24 ?_
          refine mF rfl rfl hb24 ?_
          refine mF rfl rfl hb24 ?_
          refine mF rfl rfl hb24 ?_
          refine mF rfl rfl hb24 ?_
          refine mF rfl rfl hb24 ?_
          refine mF rfl rfl hb24 ?_
          refine mN0 (oPkT (congrArg LV.bool hb24) (v := (.bool _)) rfl ⟨rfl, ?_⟩)
          refine mN0 (oA (v := (.bool _)) rfl ⟨rfl, ?_⟩)
          obtain rfl := Option.some.inj hv
          exact m0 (Wk.to (eC rfl (eC rfl (eC rfl (eC rfl (eC rfl (eC rfl (eC rfl eN))))))) mN rfl (prK rfl))
        · replace hb24 := bF hb24
          replace hv := iteF hv hb24
          refine mT rfl (congrArg LV.bool hb24) (mN0 (oM (v := (.lst _ _)) rfl ⟨rfl, ?_⟩))
          refine mT rfl (congrArg LV.bool hb24) (mN0 (oM (v := (.int _ _)) rfl ⟨rfl, ?_⟩))
          obtain ⟨x25, hx25, hv⟩ := bindS hv
          refine mT rfl (congrArg LV.bool hb24) (mN0 (oIx (f := (LV.int .i64)) te28 tk3 ts3 rfl rfl okI hx25 rfl ⟨rfl, ?_⟩))
          refine mT rfl (congrArg LV.bool hb24) (mN0 (oLd rfl tk3 ta3 ⟨rfl, ?_⟩))
          refine mT rfl (congrArg LV.bool hb24) (mN0 (oM (v := (.lst _ _)) rfl ⟨rfl, ?_⟩))
          refine mT rfl (congrArg LV.bool hb24) (mN0 (oM (v := (.int _ _)) rfl ⟨rfl, ?_⟩))
          obtain ⟨x26, hx26, hv⟩ := bindS hv
          refine mT rfl (congrArg LV.bool hb24) (mN0 (oIx (f := (LV.int .i64)) te28 tk3 ts3 rfl rfl okI hx26 rfl ⟨rfl, ?_⟩))
          refine mT rfl (congrArg LV.bool hb24) (mN0 (oLd rfl tk3 ta3 ⟨rfl, ?_⟩))
          refine mT rfl (congrArg LV.bool hb24) (mN0 (oEq rfl rfl ⟨rfl, ?_⟩))
          refine mN0 (oPkF (congrArg LV.bool hb24) (v := (.bool _)) rfl ⟨rfl, ?_⟩)
          refine mN0 (oA (v := (.bool _)) rfl ⟨rfl, ?_⟩)
          obtain rfl := Option.some.inj hv
          exact m0 (Wk.to (eC rfl (eC rfl (eC rfl (eC rfl (eC rfl (eC rfl (eC rfl eN))))))) mN rfl (prK rfl))
      clear hv
      refine blockN ?_
      refine thenN ?_
      refine LH.loneT [(4, .lst 3 (List.map GStamp.lv r2.1)), (6, .lst 1 (List.map (LV.int .i64) r4.1)), (8, .lst 1 (List.map (LV.int .i64) r5.1)), (10, .lst 2 (List.map GIdentity.lv r6.1)), (12, .int .i64 n11), (13, .bool w23), (14, .int .i64 (i64 (n20 + 1)))] [] rfl ?_ ?_
      · refine sN (oM (v := (.int _ _)) rfl ?_)
        refine sN (oAdd rfl rfl ?_)
        refine sN (oA (v := (.int _ _)) rfl ?_)
        exact s0 (Wk.to (eC rfl (eC rfl (eC rfl (eC rfl (eC rfl (eC rfl (eC rfl eN))))))) mN rfl (prK rfl))
      exact roundN (e' := Env.of [(4, .lst 3 (List.map GStamp.lv r2.1)), (6, .lst 1 (List.map (LV.int .i64) r4.1)), (8, .lst 1 (List.map (LV.int .i64) r5.1)), (10, .lst 2 (List.map GIdentity.lv r6.1)), (12, .int .i64 n11), (13, .bool w23), (14, .int .i64 (i64 (n20 + 1)))]) (m' := Mem.of []) (Wk.to (eC rfl (eC rfl (eC rfl (eC rfl (eC rfl (eC rfl (eC rfl eN))))))) mN rfl (prK rfl)) ⟨w23, (i64 (n20 + 1)), hrec2 ▸ h, rfl, rfl⟩
    replace h := iteF h hc21
    refine LH.exit ?_
    refine thenX ?_
    refine roundX ?_
    refine blockH ?_
    refine thenN ?_
    refine LH.wk (Wk.to (el := [(4, .lst 3 (List.map GStamp.lv r2.1)), (6, .lst 1 (List.map (LV.int .i64) r4.1)), (8, .lst 1 (List.map (LV.int .i64) r5.1)), (10, .lst 2 (List.map GIdentity.lv r6.1)), (12, .int .i64 n11), (13, .bool b19)]) (ml := []) (eC rfl (eC rfl (eC rfl (eC rfl (eC rfl (eC rfl eN)))))) mN rfl (prK rfl)) ?_
    refine LH.seq ?_
    refine LH.seqT [(4, .lst 3 (List.map GStamp.lv r2.1)), (6, .lst 1 (List.map (LV.int .i64) r4.1)), (8, .lst 1 (List.map (LV.int .i64) r5.1)), (10, .lst 2 (List.map GIdentity.lv r6.1)), (12, .int .i64 n11), (13, .bool b19), (15, .int .i64 0)] [] rfl ?_ ?_
    · refine sN (oA (v := (.int _ _)) rfl ?_)
      exact s0 (Wk.to (eC rfl (eC rfl (eC rfl (eC rfl (eC rfl (eC rfl (eC rfl eN))))))) mN rfl (prK rfl))
    refine LH.block ?_
    refine LH.loop (fun n e m => ∃ (b27 : Bool) (n28 : Int), law02_StampGrows_L3 rec1 r2 r4 r6 n11 n b27 n28 = some r ∧ e = Env.of [(4, .lst 3 (List.map GStamp.lv r2.1)), (6, .lst 1 (List.map (LV.int .i64) r4.1)), (8, .lst 1 (List.map (LV.int .i64) r5.1)), (10, .lst 2 (List.map GIdentity.lv r6.1)), (12, .int .i64 n11), (13, .bool b27), (15, .int .i64 n28)] ∧ m = Mem.of []) F ⟨b19, 0, h, rfl, rfl⟩ ?_
    clear h
    rintro n e m ⟨b27, n28, h, rfl, rfl⟩
    rcases n with _ | n
    · cases (show Option.none = some _ from h)
    obtain ⟨rec3, hrec3⟩ : ∃ f, f = law02_StampGrows_L3 rec1 r2 r4 r6 n11 n := ⟨_, rfl⟩
    replace h : law02_StampGrows_L3_B rec1 r2 r4 r6 n11 rec3 b27 n28 = some r := hrec3 ▸ h
    unfold law02_StampGrows_L3_B at h
    refine LH.seq ?_
    refine LH.seqT [(4, .lst 3 (List.map GStamp.lv r2.1)), (6, .lst 1 (List.map (LV.int .i64) r4.1)), (8, .lst 1 (List.map (LV.int .i64) r5.1)), (10, .lst 2 (List.map GIdentity.lv r6.1)), (12, .int .i64 n11), (13, .bool b27), (15, .int .i64 n28), (96, .bool (decide (n28 < (r6.1.length : Int))))] [] rfl ?_ ?_
    · refine sN (oM (v := (.int _ _)) rfl ?_)
      refine sN (oM (v := (.lst _ _)) rfl ?_)
      refine sN (oLnL (f := GIdentity.lv) te46 rfl ?_)
      refine sN (oLt rfl rfl ?_)
      exact s0 (Wk.to (eC rfl (eC rfl (eC rfl (eC rfl (eC rfl (eC rfl (eC rfl (eC rfl eN)))))))) mN rfl (prK rfl))
    refine LH.cond (t := (decide (n28 < (r6.1.length : Int)))) rfl (fun hc29 => ?_) (fun hc29 => ?_)
    · replace h := iteT h hc29
      refine LH.skip ?_
      refine thenN ?_
      refine LH.wk (Wk.to (el := [(4, .lst 3 (List.map GStamp.lv r2.1)), (6, .lst 1 (List.map (LV.int .i64) r4.1)), (8, .lst 1 (List.map (LV.int .i64) r5.1)), (10, .lst 2 (List.map GIdentity.lv r6.1)), (12, .int .i64 n11), (13, .bool b27), (15, .int .i64 n28)]) (ml := []) (eC rfl (eC rfl (eC rfl (eC rfl (eC rfl (eC rfl (eC rfl eN))))))) mN rfl (prK rfl)) ?_
      refine LH.seq ?_
      refine LH.block ?_
      obtain ⟨w31, hv, h⟩ := bindS h
      refine LH.loneTM mixed [] [0, 0, 0, 0, 0, 0, 0, 0, 0, 0, 0, 0, 0, 0, 0, 0, 0, 0, 0, 0, 0, 0, 0, 0, 0, 0] [(4, .lst 3 (List.map GStamp.lv r2.1)), (6, .lst 1 (List.map (LV.int .i64) r4.1)), (8, .lst 1 (List.map (LV.int .i64) r5.1)), (10, .lst 2 (List.map GIdentity.lv r6.1)), (12, .int .i64 n11), (13, .bool w31), (15, .int .i64 n28)] [] rfl rfl (by kernel_rfl) ?_ ?_
      · refine mN0 (oM (v := (.bool _)) rfl ⟨rfl, ?_⟩)
        refine mN0 (oM (v := (.bool _)) rfl ⟨rfl, ?_⟩)
        by_cases hb32 : b27 = true
        · replace hv := iteT hv hb32
          refine mF rfl rfl hb32 ?_
          refine mF rfl rfl hb32 ?_
          refine mF rfl rfl hb32 ?_
          refine mF rfl rfl hb32 ?_
          refine mF rfl rfl hb32 ?_
          refine mF rfl rfl hb32 ?_
          refine mF rfl rfl hb32 ?_
          refine mF rfl rfl hb32 ?_
          refine mF rfl rfl hb32 ?_
          refine mF rfl rfl hb32 ?_
          refine mF rfl rfl hb32 ?_
          refine mF rfl rfl hb32 ?_
          refine mF rfl rfl hb32 ?_
          refine mF rfl rfl hb32 ?_
          refine mF rfl rfl hb32 ?_
          refine mF rfl rfl hb32 ?_
          refine mF rfl rfl hb32 ?_
          refine mF rfl rfl hb32 ?_
          refine mF rfl rfl hb32 ?_
          refine mF rfl rfl hb32 ?_
          refine mF rfl rfl hb32 ?_
          refine mF rfl rfl hb32 ?_
          refine mN0 (oPkT (congrArg LV.bool hb32) (v := (.bool _)) rfl ⟨rfl, ?_⟩)
          refine mN0 (oA (v := (.bool _)) rfl ⟨rfl, ?_⟩)
          obtain rfl := Option.some.inj hv
          exact m0 (Wk.to (eC rfl (eC rfl (eC rfl (eC rfl (eC rfl (eC rfl (eC rfl eN))))))) mN rfl (prK rfl))
        · replace hb32 := bF hb32
          replace hv := iteF hv hb32
          refine mT rfl (congrArg LV.bool hb32) (mN0 (oM (v := (.lst _ _)) rfl ⟨rfl, ?_⟩))
          refine mT rfl (congrArg LV.bool hb32) (mN0 (oM (v := (.int _ _)) rfl ⟨rfl, ?_⟩))
          obtain ⟨x33, hx33, hv⟩ := bindS hv
          refine mT rfl (congrArg LV.bool hb32) (mN0 (oIx (f := GIdentity.lv) te46 tk50 ts50 rfl rfl GIdentity.ok hx33 rfl ⟨rfl, ?_⟩))
          refine mT rfl (congrArg LV.bool hb32) (mN0 (oLdA rfl tk50 ta50 ts50 rfl rfl ⟨rfl, ?_⟩))
          refine mT rfl (congrArg LV.bool hb32) (mN0 (oM (v := (.lst _ _)) rfl ⟨rfl, ?_⟩))
          refine mT rfl (congrArg LV.bool hb32) (mN0 (oM (v := (.lst _ _)) rfl ⟨rfl, ?_⟩))
          refine mT rfl (congrArg LV.bool hb32) (mN0 (oM (v := (.int _ _)) rfl ⟨rfl, ?_⟩))
          obtain ⟨x34, hx34, hv⟩ := bindS hv
          refine mT rfl (congrArg LV.bool hb32) (mN0 (oIx (f := (LV.int .i64)) te28 tk3 ts3 rfl rfl okI hx34 rfl ⟨rfl, ?_⟩))
          refine mT rfl (congrArg LV.bool hb32) (mN0 (oLd rfl tk3 ta3 ⟨rfl, ?_⟩))
          obtain ⟨x35, hx35, hv⟩ := bindS hv
          refine mT rfl (congrArg LV.bool hb32) (mN0 (oIx (f := GStamp.lv) te31 tk23 ts23 rfl rfl GStamp.ok hx35 rfl ⟨rfl, ?_⟩))
          refine mT rfl (congrArg LV.bool hb32) (mN0 (oFaS tf23_1 tk3 ts3 rfl rfl rfl ⟨rfl, ?_⟩))
          refine mT rfl (congrArg LV.bool hb32) (mN0 (oLd rfl tk3 ta3 ⟨rfl, ?_⟩))
          refine mT rfl (congrArg LV.bool hb32) (mN0 (oM (v := (.lst _ _)) rfl ⟨rfl, ?_⟩))
          refine mT rfl (congrArg LV.bool hb32) (mN0 (oM (v := (.lst _ _)) rfl ⟨rfl, ?_⟩))
          refine mT rfl (congrArg LV.bool hb32) (mN0 (oM (v := (.int _ _)) rfl ⟨rfl, ?_⟩))
          obtain ⟨x36, hx36, hv⟩ := bindS hv
          refine mT rfl (congrArg LV.bool hb32) (mN0 (oIx (f := (LV.int .i64)) te28 tk3 ts3 rfl rfl okI hx36 rfl ⟨rfl, ?_⟩))
          refine mT rfl (congrArg LV.bool hb32) (mN0 (oLd rfl tk3 ta3 ⟨rfl, ?_⟩))
          obtain ⟨x37, hx37, hv⟩ := bindS hv
          refine mT rfl (congrArg LV.bool hb32) (mN0 (oIx (f := GStamp.lv) te31 tk23 ts23 rfl rfl GStamp.ok hx37 rfl ⟨rfl, ?_⟩))
          refine mT rfl (congrArg LV.bool hb32) (mN0 (oFaS tf23_2 tk3 ts3 rfl rfl rfl ⟨rfl, ?_⟩))
          refine mT rfl (congrArg LV.bool hb32) (mN0 (oLd rfl tk3 ta3 ⟨rfl, ?_⟩))
          refine mT rfl (congrArg LV.bool hb32) (mN0 (oBd (vs := [(0, .int .i64 x35.Source), (1, .int .i64 x37.Seq)]) tu50 tz50 rfl (lf tf50_0 ts3 tk3 rfl rfl rfl (lf tf50_1 ts3 tk3 rfl rfl rfl lf0)) ⟨rfl, ?_⟩))
          refine mT rfl (congrArg LV.bool hb32) (mN0 (oEqA rfl rfl (ae50 x33 (GIdentity.mk x35.Source x37.Seq)) ⟨rfl, ?_⟩))
          refine mN0 (oPkF (congrArg LV.bool hb32) (v := (.bool _)) rfl ⟨rfl, ?_⟩)
          refine mN0 (oA (v := (.bool _)) rfl ⟨rfl, ?_⟩)
          obtain rfl := Option.some.inj hv
          exact m0 (Wk.to (eC rfl (eC rfl (eC rfl (eC rfl (eC rfl (eC rfl (eC rfl eN))))))) mN rfl (prK rfl))
      clear hv
      refine blockN ?_
      refine thenN ?_
      refine LH.loneT [(4, .lst 3 (List.map GStamp.lv r2.1)), (6, .lst 1 (List.map (LV.int .i64) r4.1)), (8, .lst 1 (List.map (LV.int .i64) r5.1)), (10, .lst 2 (List.map GIdentity.lv r6.1)), (12, .int .i64 n11), (13, .bool w31), (15, .int .i64 (i64 (n28 + 1)))] [] rfl ?_ ?_
      · refine sN (oM (v := (.int _ _)) rfl ?_)
        refine sN (oAdd rfl rfl ?_)
        refine sN (oA (v := (.int _ _)) rfl ?_)
        exact s0 (Wk.to (eC rfl (eC rfl (eC rfl (eC rfl (eC rfl (eC rfl (eC rfl eN))))))) mN rfl (prK rfl))
      exact roundN (e' := Env.of [(4, .lst 3 (List.map GStamp.lv r2.1)), (6, .lst 1 (List.map (LV.int .i64) r4.1)), (8, .lst 1 (List.map (LV.int .i64) r5.1)), (10, .lst 2 (List.map GIdentity.lv r6.1)), (12, .int .i64 n11), (13, .bool w31), (15, .int .i64 (i64 (n28 + 1)))]) (m' := Mem.of []) (Wk.to (eC rfl (eC rfl (eC rfl (eC rfl (eC rfl (eC rfl (eC rfl eN))))))) mN rfl (prK rfl)) ⟨w31, (i64 (n28 + 1)), hrec3 ▸ h, rfl, rfl⟩
    replace h := iteF h hc29
    refine LH.exit ?_
    refine thenX ?_
    refine roundX ?_
    refine blockH ?_
    refine thenN ?_
    refine LH.wk (Wk.to (el := [(4, .lst 3 (List.map GStamp.lv r2.1)), (6, .lst 1 (List.map (LV.int .i64) r4.1)), (8, .lst 1 (List.map (LV.int .i64) r5.1)), (10, .lst 2 (List.map GIdentity.lv r6.1)), (12, .int .i64 n11), (13, .bool b27)]) (ml := []) (eC rfl (eC rfl (eC rfl (eC rfl (eC rfl (eC rfl eN)))))) mN rfl (prK rfl)) ?_
    refine LH.seqT [(4, .lst 3 (List.map GStamp.lv r2.1)), (6, .lst 1 (List.map (LV.int .i64) r4.1)), (8, .lst 1 (List.map (LV.int .i64) r5.1)), (10, .lst 2 (List.map GIdentity.lv r6.1)), (12, .int .i64 n11), (125, .bool (!b27))] [] rfl ?_ ?_
    · refine sN (oM (v := (.bool _)) rfl ?_)
      refine sN (oNot rfl ?_)
      exact s0 (Wk.to (eC rfl (eC rfl (eC rfl (eC rfl (eC rfl (eC rfl eN)))))) mN rfl (prK rfl))
    refine LH.cond (t := (!b27)) rfl (fun hc38 => ?_) (fun hc38 => ?_)
    · replace h := iteT h hc38
      refine LH.seqT [(2, .bool false)] [] rfl ?_ ?_
      · refine sN (oA (v := (.bool _)) rfl ?_)
        exact s0 (Wk.to (eC rfl eN) mN rfl (prK rfl))
      refine LH.ret ?_
      refine blockR ?_
      refine thenR ?_
      refine roundR ?_
      refine blockR ?_
      refine thenR ?_
      obtain rfl := Option.some.inj h
      exact retE (congrArg Array.toList Try.results11) (lrT rfl (lr0 ⟨memN mN, rfl, prK rfl, Sub.rfl⟩))
    replace h := iteF h hc38
    refine LH.skip ?_
    refine blockN ?_
    refine thenN ?_
    refine LH.wk (Wk.to (el := [(4, .lst 3 (List.map GStamp.lv r2.1)), (6, .lst 1 (List.map (LV.int .i64) r4.1)), (8, .lst 1 (List.map (LV.int .i64) r5.1)), (10, .lst 2 (List.map GIdentity.lv r6.1)), (12, .int .i64 n11)]) (ml := []) (eC rfl (eC rfl (eC rfl (eC rfl (eC rfl eN))))) mN rfl (prK rfl)) ?_
    refine LH.loneT [(4, .lst 3 (List.map GStamp.lv r2.1)), (6, .lst 1 (List.map (LV.int .i64) r4.1)), (8, .lst 1 (List.map (LV.int .i64) r5.1)), (10, .lst 2 (List.map GIdentity.lv r6.1)), (12, .int .i64 (i64 (n11 + 1)))] [] rfl ?_ ?_
    · refine sN (oM (v := (.int _ _)) rfl ?_)
      refine sN (oAdd rfl rfl ?_)
      refine sN (oA (v := (.int _ _)) rfl ?_)
      exact s0 (Wk.to (eC rfl (eC rfl (eC rfl (eC rfl (eC rfl eN))))) mN rfl (prK rfl))
    exact roundN (e' := Env.of [(4, .lst 3 (List.map GStamp.lv r2.1)), (6, .lst 1 (List.map (LV.int .i64) r4.1)), (8, .lst 1 (List.map (LV.int .i64) r5.1)), (10, .lst 2 (List.map GIdentity.lv r6.1)), (12, .int .i64 (i64 (n11 + 1)))]) (m' := Mem.of []) (Wk.to (eC rfl (eC rfl (eC rfl (eC rfl (eC rfl eN))))) mN rfl (prK rfl)) ⟨(i64 (n11 + 1)), hrec1 ▸ h, rfl, rfl⟩
  replace h := iteF h hc12
  refine LH.exit ?_
  refine thenX ?_
  refine roundX ?_
  refine blockH ?_
  refine thenN ?_
  refine LH.wk (Wk.to (el := []) (ml := []) eN mN rfl (prK rfl)) ?_
  obtain ⟨r39, hr39, h⟩ := bindS h
  refine LH.seqT [(2, .bool r39)] [] rfl ?_ ?_
  · refine sN (oCP (args := []) rfl isF16 rfl sbN (law02_awake_ok hr39) rfl ?_)
    refine sN (oA (v := (.bool _)) rfl ?_)
    exact s0 (Wk.to (eC rfl eN) mN rfl (prK rfl))
  refine LH.ret ?_
  obtain rfl := Option.some.inj h
  exact retE (congrArg Array.toList Try.results11) (lrT rfl (lr0 ⟨memN mN, rfl, prK rfl, Sub.rfl⟩))

end Go.Proofs.Ytdkhlkihhdjbbaa
