/- Walks, printed by program (gen.py): each function computes its plain function. -/
import Derived.Test.YtkkhmngmhckgbaaW2
set_option linter.unusedVariables false
set_option linter.unusedSimpArgs false
set_option maxRecDepth 100000
namespace Go.Proofs.Ytkkhmngmhckgbaa
open Go.L Go.Sh
theorem ref13_Fold_ok {F : Nat} {p0 : List GEntryEvent} {p1 : GDeadlines} {p2 : Int} {r : List GEnrolment × List GRefusal × Int} (h : ref13_Fold F p0 p1 p2 = some r) : LCall Try.prog 22 [.lst 8 (List.map GEntryEvent.lv p0), .agg [.int .i64 p1.Close, .int .i64 p1.Late], .int .i64 p2] (Mem.of []) (.tup [.arr 900 (List.length r.1), .lst 3 (List.map GRefusal.lv r.2.1), .int .i64 r.2.2]) (Mem.of [(900, .arr 53 4 (List.map GEnrolment.lv r.1))]) := by
  unfold ref13_Fold at h
  refine bodyT Try.func22 rfl (by rw [Try.ntmps22]; exact Nat.le_of_ble_eq_true rfl) ?_
  refine LH.wk (Wk.to (el := [(0, .lst 8 (List.map GEntryEvent.lv p0)), (1, .agg [.int .i64 p1.Close, .int .i64 p1.Late]), (2, .int .i64 p2)]) (ml := []) (eC rfl (eC rfl (eC rfl eN))) mN rfl (prK rfl)) ?_
  refine LH.seqT [(0, .lst 8 (List.map GEntryEvent.lv p0)), (2, .int .i64 p2), (4, .sptr [.int .i64 p1.Close, .int .i64 p1.Late])] [] rfl ?_ ?_
  · refine sB (oBxR rfl rfl rfl rfl rfl ?_)
    refine sN (oA (v := .nil) rfl ?_)
    refine sN (oA (v := .nil) rfl ?_)
    refine sN (oA (v := (.int _ _)) rfl ?_)
    exact s0 (Wk.to (eC rfl (eC rfl (eC rfl eN))) mN rfl (prK rfl))
  refine LH.seq ?_
  obtain ⟨r1, hr1, h⟩ := bindS h
  refine LH.seqT [(0, .lst 8 (List.map GEntryEvent.lv p0)), (2, .int .i64 p2), (4, .sptr [.int .i64 p1.Close, .int .i64 p1.Late]), (18, .bool (!r1))] [] rfl ?_ ?_
  · refine sN (oLdA rfl tk41 ta41 ts41 rfl rfl ?_)
    refine sN (oCP (args := [.agg [.int .i64 p1.Close, .int .i64 p1.Late]]) rfl isF44 rfl (sbR sbN) (ref13_Deadlines_ok hr1) rfl ?_)
    refine sN (oNot rfl ?_)
    exact s0 (Wk.to (eC rfl (eC rfl (eC rfl (eC rfl eN)))) mN rfl (prK rfl))
  refine LH.cond (t := (!r1)) rfl (fun hc2 => ?_) (fun hc2 => ?_)
  · replace h := iteT h hc2
    refine LH.seqT [(6, .nil), (7, .nil), (8, .int .i64 1)] [] rfl ?_ ?_
    · refine sN (oA (v := .nil) rfl ?_)
      refine sN (oA (v := .nil) rfl ?_)
      refine sN (oA (v := (.int _ _)) rfl ?_)
      exact s0 (Wk.to (eC rfl (eC rfl (eC rfl eN))) mN rfl (prK rfl))
    refine LH.wk ((Wk.trans (Wk.to (el := [(6, .nil), (7, .nil), (8, .int .i64 1)]) (ml := []) (eC rfl (eC rfl (eC rfl eN))) mN rfl (prK rfl)) (Wk.trans (Wk.to (el := [(6, .nil), (7, .nil), (8, .int .i64 1)]) (ml := []) (eC rfl (eC rfl (eC rfl eN))) mN rfl (prK rfl)) (Wk.trans (Wk.ownL (el' := [(6, .arr 900 (List.length ([] : List GEnrolment))), (7, .nil), (8, .int .i64 1)]) 900 53 4 rfl rfl (wO (wK (wK wN)))) (Wk.to (el := [(6, .arr 900 (List.length ([] : List GEnrolment))), (7, .nil), (8, .int .i64 1)]) (ml := [(900, .arr 53 4 (List.map GEnrolment.lv ([] : List GEnrolment)))]) (eC rfl (eC rfl (eC rfl eN))) (mC rfl mN) rfl (prK rfl)))))) ?_
    refine LH.ret ?_
    refine thenR ?_
    obtain rfl := Option.some.inj h
    exact retE (congrArg Array.toList Try.results22) (lrT rfl (lrT rfl (lrT rfl (lr0 ⟨memN (mC rfl mN), rfl, prK rfl, (Sub.tup (sbR (sbL (sbR sbN))))⟩))))
  replace h := iteF h hc2
  refine LH.skip ?_
  refine thenN ?_
  refine LH.wk (Wk.to (el := [(0, .lst 8 (List.map GEntryEvent.lv p0)), (2, .int .i64 p2), (4, .sptr [.int .i64 p1.Close, .int .i64 p1.Late])]) (ml := []) (eC rfl (eC rfl (eC rfl eN))) mN rfl (prK rfl)) ?_
  obtain ⟨r3, hr3, h⟩ := bindS h
  refine LH.seqT [(2, .int .i64 p2), (4, .sptr [.int .i64 p1.Close, .int .i64 p1.Late]), (9, .lst 8 (List.map GEntryEvent.lv r3.1)), (10, .int .i64 r3.2)] [] rfl ?_ ?_
  · refine sN (oM (v := (.lst _ _)) rfl ?_)
    refine sN (oCP (args := [.lst 8 (List.map GEntryEvent.lv p0)]) rfl isF15 rfl (sbR sbN) (ref13_Canonical_ok hr3) rfl ?_)
    refine sN (oM (v := (.tup _)) rfl ?_)
    refine sN (oEx rfl rfl ?_)
    refine sN (oEx rfl rfl ?_)
    refine sN (oA (v := (.lst _ _)) rfl ?_)
    refine sN (oA (v := (.int _ _)) rfl ?_)
    exact s0 (Wk.to (eC rfl (eC rfl (eC rfl (eC rfl eN)))) mN rfl (prK rfl))
  refine LH.seq ?_
  refine LH.seqT [(2, .int .i64 p2), (4, .sptr [.int .i64 p1.Close, .int .i64 p1.Late]), (9, .lst 8 (List.map GEntryEvent.lv r3.1)), (10, .int .i64 r3.2), (25, .bool (r3.2 != 0))] [] rfl ?_ ?_
  · refine sN (oM (v := (.int _ _)) rfl ?_)
    refine sN (oNe rfl rfl ?_)
    exact s0 (Wk.to (eC rfl (eC rfl (eC rfl (eC rfl (eC rfl eN))))) mN rfl (prK rfl))
  refine LH.cond (t := (r3.2 != 0)) rfl (fun hc4 => ?_) (fun hc4 => ?_)
  · replace h := iteT h hc4
    refine LH.seqT [(6, .nil), (7, .nil), (8, .int .i64 r3.2)] [] rfl ?_ ?_
    · refine sN (oM (v := (.int _ _)) rfl ?_)
      refine sN (oA (v := .nil) rfl ?_)
      refine sN (oA (v := .nil) rfl ?_)
      refine sN (oA (v := (.int _ _)) rfl ?_)
      exact s0 (Wk.to (eC rfl (eC rfl (eC rfl eN))) mN rfl (prK rfl))
    refine LH.wk ((Wk.trans (Wk.to (el := [(6, .nil), (7, .nil), (8, .int .i64 r3.2)]) (ml := []) (eC rfl (eC rfl (eC rfl eN))) mN rfl (prK rfl)) (Wk.trans (Wk.to (el := [(6, .nil), (7, .nil), (8, .int .i64 r3.2)]) (ml := []) (eC rfl (eC rfl (eC rfl eN))) mN rfl (prK rfl)) (Wk.trans (Wk.ownL (el' := [(6, .arr 900 (List.length ([] : List GEnrolment))), (7, .nil), (8, .int .i64 r3.2)]) 900 53 4 rfl rfl (wO (wK (wK wN)))) (Wk.to (el := [(6, .arr 900 (List.length ([] : List GEnrolment))), (7, .nil), (8, .int .i64 r3.2)]) (ml := [(900, .arr 53 4 (List.map GEnrolment.lv ([] : List GEnrolment)))]) (eC rfl (eC rfl (eC rfl eN))) (mC rfl mN) rfl (prK rfl)))))) ?_
    refine LH.ret ?_
    refine thenR ?_
    obtain rfl := Option.some.inj h
    exact retE (congrArg Array.toList Try.results22) (lrT rfl (lrT rfl (lrT rfl (lr0 ⟨memN (mC rfl mN), rfl, prK rfl, (Sub.tup (sbR (sbL (sbR sbN))))⟩))))
  replace h := iteF h hc4
  refine LH.skip ?_
  refine thenN ?_
  refine LH.wk (Wk.to (el := [(2, .int .i64 p2), (4, .sptr [.int .i64 p1.Close, .int .i64 p1.Late]), (9, .lst 8 (List.map GEntryEvent.lv r3.1))]) (ml := []) (eC rfl (eC rfl (eC rfl eN))) mN rfl (prK rfl)) ?_
  refine LH.seqT [(2, .int .i64 p2), (4, .sptr [.int .i64 p1.Close, .int .i64 p1.Late]), (9, .lst 8 (List.map GEntryEvent.lv r3.1)), (11, .nil)] [] rfl ?_ ?_
  · refine sN (oA (v := .nil) rfl ?_)
    exact s0 (Wk.to (eC rfl (eC rfl (eC rfl (eC rfl eN)))) mN rfl (prK rfl))
  refine LH.seqT [(2, .int .i64 p2), (4, .sptr [.int .i64 p1.Close, .int .i64 p1.Late]), (9, .lst 8 (List.map GEntryEvent.lv r3.1)), (11, .nil), (12, .nil)] [] rfl ?_ ?_
  · refine sN (oA (v := .nil) rfl ?_)
    exact s0 (Wk.to (eC rfl (eC rfl (eC rfl (eC rfl (eC rfl eN))))) mN rfl (prK rfl))
  refine LH.seq ?_
  refine LH.seqT [(2, .int .i64 p2), (4, .sptr [.int .i64 p1.Close, .int .i64 p1.Late]), (9, .lst 8 (List.map GEntryEvent.lv r3.1)), (11, .nil), (12, .nil), (13, .int .i64 0)] [] rfl ?_ ?_
  · refine sN (oA (v := (.int _ _)) rfl ?_)
    exact s0 (Wk.to (eC rfl (eC rfl (eC rfl (eC rfl (eC rfl (eC rfl eN)))))) mN rfl (prK rfl))
  refine LH.block ?_
  refine LH.wk ((Wk.trans (Wk.to (el := [(2, .int .i64 p2), (4, .sptr [.int .i64 p1.Close, .int .i64 p1.Late]), (9, .lst 8 (List.map GEntryEvent.lv r3.1)), (11, .nil), (12, .nil), (13, .int .i64 0)]) (ml := []) (eC rfl (eC rfl (eC rfl (eC rfl (eC rfl (eC rfl eN)))))) mN rfl (prK rfl)) (Wk.trans (Wk.to (el := [(2, .int .i64 p2), (4, .sptr [.int .i64 p1.Close, .int .i64 p1.Late]), (9, .lst 8 (List.map GEntryEvent.lv r3.1)), (11, .nil), (12, .nil), (13, .int .i64 0)]) (ml := []) (eC rfl (eC rfl (eC rfl (eC rfl (eC rfl (eC rfl eN)))))) mN rfl (prK rfl)) (Wk.trans (Wk.ownL (el' := [(2, .int .i64 p2), (4, .sptr [.int .i64 p1.Close, .int .i64 p1.Late]), (9, .lst 8 (List.map GEntryEvent.lv r3.1)), (11, .nil), (12, .arr 170 (List.length ([] : List GRefusal))), (13, .int .i64 0)]) 170 76 3 rfl rfl (wK (wK (wK (wK (wO (wK wN))))))) (Wk.trans (Wk.to (el := [(2, .int .i64 p2), (4, .sptr [.int .i64 p1.Close, .int .i64 p1.Late]), (9, .lst 8 (List.map GEntryEvent.lv r3.1)), (11, .nil), (12, .arr 170 (List.length ([] : List GRefusal))), (13, .int .i64 0)]) (ml := [(170, .arr 76 3 (List.map GRefusal.lv ([] : List GRefusal)))]) (eC rfl (eC rfl (eC rfl (eC rfl (eC rfl (eC rfl eN)))))) (mC rfl mN) rfl (prK rfl)) (Wk.trans (Wk.ownL (el' := [(2, .int .i64 p2), (4, .sptr [.int .i64 p1.Close, .int .i64 p1.Late]), (9, .lst 8 (List.map GEntryEvent.lv r3.1)), (11, .arr 900 (List.length ([] : List GEnrolment))), (12, .arr 170 (List.length ([] : List GRefusal))), (13, .int .i64 0)]) 900 53 4 rfl rfl (wK (wK (wK (wO (wK (wK wN))))))) (Wk.to (el := [(2, .int .i64 p2), (4, .sptr [.int .i64 p1.Close, .int .i64 p1.Late]), (9, .lst 8 (List.map GEntryEvent.lv r3.1)), (11, .arr 900 (List.length ([] : List GEnrolment))), (12, .arr 170 (List.length ([] : List GRefusal))), (13, .int .i64 0)]) (ml := [(170, .arr 76 3 (List.map GRefusal.lv ([] : List GRefusal))), (900, .arr 53 4 (List.map GEnrolment.lv ([] : List GEnrolment)))]) (eC rfl (eC rfl (eC rfl (eC rfl (eC rfl (eC rfl eN)))))) (mC rfl (mC rfl mN)) rfl (prK rfl)))))))) ?_
  refine LH.loop (fun n e m => ∃ (n5 : Int) (l6 : List GRefusal) (l7 : List GEnrolment), ref13_Fold_L1 F p1 p2 r3 n n5 l6 l7 = some r ∧ e = Env.of [(2, .int .i64 p2), (4, .sptr [.int .i64 p1.Close, .int .i64 p1.Late]), (9, .lst 8 (List.map GEntryEvent.lv r3.1)), (11, .arr 900 (List.length l7)), (12, .arr 170 (List.length l6)), (13, .int .i64 n5)] ∧ m = Mem.of [(170, .arr 76 3 (List.map GRefusal.lv l6)), (900, .arr 53 4 (List.map GEnrolment.lv l7))]) F ⟨0, ([] : List GRefusal), ([] : List GEnrolment), h, rfl, rfl⟩ ?_
  clear h
  rintro n e m ⟨n5, l6, l7, h, rfl, rfl⟩
  rcases n with _ | n
  · cases (show Option.none = some _ from h)
  obtain ⟨rec1, hrec1⟩ : ∃ f, f = ref13_Fold_L1 F p1 p2 r3 n := ⟨_, rfl⟩
  replace h : ref13_Fold_L1_B F p1 p2 r3 rec1 n5 l6 l7 = some r := hrec1 ▸ h
  unfold ref13_Fold_L1_B at h
  refine LH.seq ?_
  refine LH.seqT [(2, .int .i64 p2), (4, .sptr [.int .i64 p1.Close, .int .i64 p1.Late]), (9, .lst 8 (List.map GEntryEvent.lv r3.1)), (11, .arr 900 (List.length l7)), (12, .arr 170 (List.length l6)), (13, .int .i64 n5), (30, .bool (decide (n5 < (r3.1.length : Int))))] [(170, .arr 76 3 (List.map GRefusal.lv l6)), (900, .arr 53 4 (List.map GEnrolment.lv l7))] rfl ?_ ?_
  · refine sN (oM (v := (.int _ _)) rfl ?_)
    refine sN (oM (v := (.lst _ _)) rfl ?_)
    refine sN (oLnL (f := GEntryEvent.lv) te25 rfl ?_)
    refine sN (oLt rfl rfl ?_)
    exact s0 (Wk.to (eC rfl (eC rfl (eC rfl (eC rfl (eC rfl (eC rfl (eC rfl eN))))))) (mC rfl (mC rfl mN)) rfl (prK rfl))
  refine LH.cond (t := (decide (n5 < (r3.1.length : Int)))) rfl (fun hc8 => ?_) (fun hc8 => ?_)
  · replace h := iteT h hc8
    refine LH.skip ?_
    refine thenN ?_
    refine LH.wk (Wk.to (el := [(2, .int .i64 p2), (4, .sptr [.int .i64 p1.Close, .int .i64 p1.Late]), (9, .lst 8 (List.map GEntryEvent.lv r3.1)), (11, .arr 900 (List.length l7)), (12, .arr 170 (List.length l6)), (13, .int .i64 n5)]) (ml := [(170, .arr 76 3 (List.map GRefusal.lv l6)), (900, .arr 53 4 (List.map GEnrolment.lv l7))]) (eC rfl (eC rfl (eC rfl (eC rfl (eC rfl (eC rfl eN)))))) (mC rfl (mC rfl mN)) rfl (prK rfl)) ?_
    refine LH.seq ?_
    refine LH.block ?_
    refine LH.seq ?_
    obtain ⟨x9, hx9, h⟩ := bindS h
    refine LH.seqT [(2, .int .i64 p2), (4, .sptr [.int .i64 p1.Close, .int .i64 p1.Late]), (9, .lst 8 (List.map GEntryEvent.lv r3.1)), (11, .arr 900 (List.length l7)), (12, .arr 170 (List.length l6)), (13, .int .i64 n5), (40, .bool (decide (x9.Stamp.Time > p2)))] [(170, .arr 76 3 (List.map GRefusal.lv l6)), (900, .arr 53 4 (List.map GEnrolment.lv l7))] rfl ?_ ?_
    · refine sN (oM (v := (.lst _ _)) rfl ?_)
      refine sN (oM (v := (.int _ _)) rfl ?_)
      refine sN (oIx (f := GEntryEvent.lv) te25 tk35 ts35 rfl rfl GEntryEvent.ok hx9 rfl ?_)
      refine sN (oFaS tf35_0 tk31 ts31 rfl rfl rfl ?_)
      refine sN (oFaS tf31_0 tk3 ts3 rfl rfl rfl ?_)
      refine sN (oLd rfl tk3 ta3 ?_)
      refine sN (oM (v := (.int _ _)) rfl ?_)
      refine sN (oGt rfl rfl ?_)
      exact s0 (Wk.to (eC rfl (eC rfl (eC rfl (eC rfl (eC rfl (eC rfl (eC rfl eN))))))) (mC rfl (mC rfl mN)) rfl (prK rfl))
    refine LH.cond (t := (decide (x9.Stamp.Time > p2))) rfl (fun hc10 => ?_) (fun hc10 => ?_)
    · replace h := iteT h hc10
      refine LH.exit ?_
      refine thenX ?_
      refine blockH ?_
      refine thenN ?_
      refine LH.wk (Wk.to (el := [(2, .int .i64 p2), (4, .sptr [.int .i64 p1.Close, .int .i64 p1.Late]), (9, .lst 8 (List.map GEntryEvent.lv r3.1)), (11, .arr 900 (List.length l7)), (12, .arr 170 (List.length l6)), (13, .int .i64 n5)]) (ml := [(170, .arr 76 3 (List.map GRefusal.lv l6)), (900, .arr 53 4 (List.map GEnrolment.lv l7))]) (eC rfl (eC rfl (eC rfl (eC rfl (eC rfl (eC rfl eN)))))) (mC rfl (mC rfl mN)) rfl (prK rfl)) ?_
      refine LH.loneT [(2, .int .i64 p2), (4, .sptr [.int .i64 p1.Close, .int .i64 p1.Late]), (9, .lst 8 (List.map GEntryEvent.lv r3.1)), (11, .arr 900 (List.length l7)), (12, .arr 170 (List.length l6)), (13, .int .i64 (i64 (n5 + 1)))] [(170, .arr 76 3 (List.map GRefusal.lv l6)), (900, .arr 53 4 (List.map GEnrolment.lv l7))] rfl ?_ ?_
      · refine sN (oM (v := (.int _ _)) rfl ?_)
        refine sN (oAdd rfl rfl ?_)
        refine sN (oA (v := (.int _ _)) rfl ?_)
        exact s0 (Wk.to (eC rfl (eC rfl (eC rfl (eC rfl (eC rfl (eC rfl eN)))))) (mC rfl (mC rfl mN)) rfl (prK rfl))
      exact roundN (e' := Env.of [(2, .int .i64 p2), (4, .sptr [.int .i64 p1.Close, .int .i64 p1.Late]), (9, .lst 8 (List.map GEntryEvent.lv r3.1)), (11, .arr 900 (List.length l7)), (12, .arr 170 (List.length l6)), (13, .int .i64 (i64 (n5 + 1)))]) (m' := Mem.of [(170, .arr 76 3 (List.map GRefusal.lv l6)), (900, .arr 53 4 (List.map GEnrolment.lv l7))]) (Wk.to (eC rfl (eC rfl (eC rfl (eC rfl (eC rfl (eC rfl eN)))))) (mC rfl (mC rfl mN)) rfl (prK rfl)) ⟨(i64 (n5 + 1)), l6, l7, hrec1 ▸ h, rfl, rfl⟩
    replace h := iteF h hc10
    refine LH.skip ?_
    refine thenN ?_
    refine LH.wk (Wk.to (el := [(2, .int .i64 p2), (4, .sptr [.int .i64 p1.Close, .int .i64 p1.Late]), (9, .lst 8 (List.map GEntryEvent.lv r3.1)), (11, .arr 900 (List.length l7)), (12, .arr 170 (List.length l6)), (13, .int .i64 n5)]) (ml := [(170, .arr 76 3 (List.map GRefusal.lv l6)), (900, .arr 53 4 (List.map GEnrolment.lv l7))]) (eC rfl (eC rfl (eC rfl (eC rfl (eC rfl (eC rfl eN)))))) (mC rfl (mC rfl mN)) rfl (prK rfl)) ?_
    obtain ⟨x11, hx11, h⟩ := bindS h
    obtain ⟨r12, hr12, h⟩ := bindS h
    refine LH.seqJM mixed [] [0, 0, 0, 0, 0, 0, 2, 0, 0, 0, 0, 0] [(2, .int .i64 p2), (4, .sptr [.int .i64 p1.Close, .int .i64 p1.Late]), (9, .lst 8 (List.map GEntryEvent.lv r3.1)), (11, .arr 900 (List.length l7)), (12, .arr 170 (List.length l6)), (13, .int .i64 n5), (14, .arr 1048 (List.length r12.1)), (15, .int .i64 r12.2)] [(170, .arr 76 3 (List.map GRefusal.lv l6)), (900, .arr 53 4 (List.map GEnrolment.lv l7)), (1048, .arr 53 4 (List.map GEnrolment.lv r12.1))] rfl rfl (by kernel_rfl) ?_ ?_
    · refine mN0 (oM (v := (.arr _ _)) rfl ⟨rfl, ?_⟩)
      refine mN0 (oLdA rfl tk41 ta41 ts41 rfl rfl ⟨rfl, ?_⟩)
      refine mN0 (oM (v := (.lst _ _)) rfl ⟨rfl, ?_⟩)
      refine mN0 (oM (v := (.int _ _)) rfl ⟨rfl, ?_⟩)
      refine mN0 (oIx (f := GEntryEvent.lv) te25 tk35 ts35 rfl rfl GEntryEvent.ok hx11 rfl ⟨rfl, ?_⟩)
      refine mN0 (oLdA rfl tk35 ta35 ts35 rfl rfl ⟨rfl, ?_⟩)
      refine mN2 (oCM (args := [.arr 900 (List.length l7), .agg [.int .i64 p1.Close, .int .i64 p1.Late], .agg [.int .i64 x11.Stamp.Time, .int .i64 x11.Stamp.Source, .int .i64 x11.Stamp.Seq, .int .i64 x11.Kind, .int .i64 x11.Entry.Candidate, .int .i64 x11.Entry.Centre, .int .i64 x11.Entry.Paper, .int .i64 x11.To]]) (ml := [(900, .arr 53 4 (List.map GEnrolment.lv l7))]) (ml' := [(900, .arr 53 4 (List.map GEnrolment.lv l7)), (1048, .arr 53 4 (List.map GEnrolment.lv r12.1))]) rfl isF31 rfl (sbR (sbR (sbR sbN))) (LCall.lend 900 53 4 (xs := List.map GEnrolment.lv l7) (LCall.renT 1048 rfl rfl (ref13_Apply_ok hr12)) (.row (by simp) (.keep rfl (.keep rfl .nil))) rfl rfl rfl rfl rfl (plC (plA (fun _ => rfl)) plN)) (mC rfl mN) (newI rfl (newF rfl newN)) rfl ?_)
      refine mN0 (oM (v := (.tup _)) rfl ⟨rfl, ?_⟩)
      refine mN0 (oEx rfl rfl ⟨rfl, ?_⟩)
      refine mN0 (oEx rfl rfl ⟨rfl, ?_⟩)
      refine mN0 (oA (v := (.arr _ _)) rfl ⟨rfl, ?_⟩)
      refine mN0 (oA (v := (.int _ _)) rfl ⟨rfl, ?_⟩)
      exact m0 (Wk.to (eC rfl (eC rfl (eC rfl (eC rfl (eC rfl (eC rfl (eC rfl (eC rfl eN)))))))) (mC rfl (mC rfl (mC rfl mN))) rfl (prK rfl))
    refine LH.seq ?_
    refine LH.seqT [(2, .int .i64 p2), (4, .sptr [.int .i64 p1.Close, .int .i64 p1.Late]), (9, .lst 8 (List.map GEntryEvent.lv r3.1)), (11, .arr 900 (List.length l7)), (12, .arr 170 (List.length l6)), (13, .int .i64 n5), (14, .arr 1048 (List.length r12.1)), (15, .int .i64 r12.2), (52, .bool (r12.2 != 0))] [(170, .arr 76 3 (List.map GRefusal.lv l6)), (900, .arr 53 4 (List.map GEnrolment.lv l7)), (1048, .arr 53 4 (List.map GEnrolment.lv r12.1))] rfl ?_ ?_
    · refine sN (oM (v := (.int _ _)) rfl ?_)
      refine sN (oNe rfl rfl ?_)
      exact s0 (Wk.to (eC rfl (eC rfl (eC rfl (eC rfl (eC rfl (eC rfl (eC rfl (eC rfl (eC rfl eN))))))))) (mC rfl (mC rfl (mC rfl mN))) rfl (prK rfl))
    refine LH.cond (t := (r12.2 != 0)) rfl (fun hc13 => ?_) (fun hc13 => ?_)
    · replace h := iteT h hc13
      obtain ⟨x14, hx14, h⟩ := bindS h
      obtain ⟨x15, hx15, h⟩ := bindS h
      obtain ⟨v16, hv16, h⟩ := bindS h
      refine LH.seqJM mixed [] [0, 0, 0, 0, 0, 0, 0, 0, 0, 0, 0, 0, 0, 0, 0, 0, 0, 2, 0] [(2, .int .i64 p2), (4, .sptr [.int .i64 p1.Close, .int .i64 p1.Late]), (9, .lst 8 (List.map GEntryEvent.lv r3.1)), (11, .arr 900 (List.length l7)), (12, .arr 170 (List.length v16)), (13, .int .i64 n5)] [(170, .arr 76 3 (List.map GRefusal.lv v16)), (900, .arr 53 4 (List.map GEnrolment.lv l7))] rfl rfl (by kernel_rfl) ?_ ?_
      · refine mN0 (oM (v := (.arr _ _)) rfl ⟨rfl, ?_⟩)
        refine mN0 (oM (v := (.lst _ _)) rfl ⟨rfl, ?_⟩)
        refine mN0 (oM (v := (.int _ _)) rfl ⟨rfl, ?_⟩)
        refine mN0 (oIx (f := GEntryEvent.lv) te25 tk35 ts35 rfl rfl GEntryEvent.ok hx14 rfl ⟨rfl, ?_⟩)
        refine mN0 (oFaS tf35_0 tk31 ts31 rfl rfl rfl ⟨rfl, ?_⟩)
        refine mN0 (oFaS tf31_1 tk3 ts3 rfl rfl rfl ⟨rfl, ?_⟩)
        refine mN0 (oLd rfl tk3 ta3 ⟨rfl, ?_⟩)
        refine mN0 (oM (v := (.lst _ _)) rfl ⟨rfl, ?_⟩)
        refine mN0 (oM (v := (.int _ _)) rfl ⟨rfl, ?_⟩)
        refine mN0 (oIx (f := GEntryEvent.lv) te25 tk35 ts35 rfl rfl GEntryEvent.ok hx15 rfl ⟨rfl, ?_⟩)
        refine mN0 (oFaS tf35_0 tk31 ts31 rfl rfl rfl ⟨rfl, ?_⟩)
        refine mN0 (oFaS tf31_2 tk3 ts3 rfl rfl rfl ⟨rfl, ?_⟩)
        refine mN0 (oLd rfl tk3 ta3 ⟨rfl, ?_⟩)
        refine mN0 (oBd (vs := [(0, .int .i64 x14.Stamp.Source), (1, .int .i64 x15.Stamp.Seq)]) tu74 tz74 rfl (lf tf74_0 ts3 tk3 rfl rfl rfl (lf tf74_1 ts3 tk3 rfl rfl rfl lf0)) ⟨rfl, ?_⟩)
        refine mN0 (oM (v := (.int _ _)) rfl ⟨rfl, ?_⟩)
        refine mN0 (oBd (vs := [(0, .agg [.int .i64 x14.Stamp.Source, .int .i64 x15.Stamp.Seq]), (1, .int .i64 r12.2)]) tu76 tz76 rfl (lf tf76_0 ts74 tk74 rfl rfl rfl (lf tf76_1 ts27 tk27 rfl rfl rfl lf0)) ⟨rfl, ?_⟩)
        refine mN0 (oBS (f := GRefusal.lv) (ys := [(GRefusal.mk (GIdentity.mk x14.Stamp.Source x15.Stamp.Seq) r12.2)]) te45 tr76 ts76 rfl rfl rfl GRefusal.ok ⟨rfl, ?_⟩)
        refine mN2 (oAp (f := GRefusal.lv) te45 tr76 ts76 rfl rfl (prN rfl) rfl hv16 ?_)
        refine mN0 (oA (v := (.arr _ _)) rfl ⟨rfl, ?_⟩)
        exact m0 (Wk.to (eC rfl (eC rfl (eC rfl (eC rfl (eC rfl (eC rfl eN)))))) (mC rfl (mC rfl mN)) rfl (prK rfl))
      refine LH.exit ?_
      refine thenX ?_
      refine blockH ?_
      refine thenN ?_
      refine LH.loneT [(2, .int .i64 p2), (4, .sptr [.int .i64 p1.Close, .int .i64 p1.Late]), (9, .lst 8 (List.map GEntryEvent.lv r3.1)), (11, .arr 900 (List.length l7)), (12, .arr 170 (List.length v16)), (13, .int .i64 (i64 (n5 + 1)))] [(170, .arr 76 3 (List.map GRefusal.lv v16)), (900, .arr 53 4 (List.map GEnrolment.lv l7))] rfl ?_ ?_
      · refine sN (oM (v := (.int _ _)) rfl ?_)
        refine sN (oAdd rfl rfl ?_)
        refine sN (oA (v := (.int _ _)) rfl ?_)
        exact s0 (Wk.to (eC rfl (eC rfl (eC rfl (eC rfl (eC rfl (eC rfl eN)))))) (mC rfl (mC rfl mN)) rfl (prK rfl))
      exact roundN (e' := Env.of [(2, .int .i64 p2), (4, .sptr [.int .i64 p1.Close, .int .i64 p1.Late]), (9, .lst 8 (List.map GEntryEvent.lv r3.1)), (11, .arr 900 (List.length l7)), (12, .arr 170 (List.length v16)), (13, .int .i64 (i64 (n5 + 1)))]) (m' := Mem.of [(170, .arr 76 3 (List.map GRefusal.lv v16)), (900, .arr 53 4 (List.map GEnrolment.lv l7))]) (Wk.to (eC rfl (eC rfl (eC rfl (eC rfl (eC rfl (eC rfl eN)))))) (mC rfl (mC rfl mN)) rfl (prK rfl)) ⟨(i64 (n5 + 1)), v16, l7, hrec1 ▸ h, rfl, rfl⟩
    replace h := iteF h hc13
    refine LH.skip ?_
    refine thenN ?_
    refine LH.wk (Wk.to (el := [(2, .int .i64 p2), (4, .sptr [.int .i64 p1.Close, .int .i64 p1.Late]), (9, .lst 8 (List.map GEntryEvent.lv r3.1)), (12, .arr 170 (List.length l6)), (13, .int .i64 n5), (14, .arr 1048 (List.length r12.1))]) (ml := [(170, .arr 76 3 (List.map GRefusal.lv l6)), (1048, .arr 53 4 (List.map GEnrolment.lv r12.1))]) (eC rfl (eC rfl (eC rfl (eC rfl (eC rfl (eC rfl eN)))))) (mC rfl (mC rfl mN)) rfl (prK rfl)) ?_
    refine LH.loneT [(2, .int .i64 p2), (4, .sptr [.int .i64 p1.Close, .int .i64 p1.Late]), (9, .lst 8 (List.map GEntryEvent.lv r3.1)), (11, .arr 1048 (List.length r12.1)), (12, .arr 170 (List.length l6)), (13, .int .i64 n5)] [(170, .arr 76 3 (List.map GRefusal.lv l6)), (1048, .arr 53 4 (List.map GEnrolment.lv r12.1))] rfl ?_ ?_
    · refine sN (oM (v := (.arr _ _)) rfl ?_)
      refine sN (oA (v := (.arr _ _)) rfl ?_)
      exact s0 (Wk.to (eC rfl (eC rfl (eC rfl (eC rfl (eC rfl (eC rfl eN)))))) (mC rfl (mC rfl mN)) rfl (prK rfl))
    refine blockN ?_
    refine thenN ?_
    refine LH.loneT [(2, .int .i64 p2), (4, .sptr [.int .i64 p1.Close, .int .i64 p1.Late]), (9, .lst 8 (List.map GEntryEvent.lv r3.1)), (11, .arr 1048 (List.length r12.1)), (12, .arr 170 (List.length l6)), (13, .int .i64 (i64 (n5 + 1)))] [(170, .arr 76 3 (List.map GRefusal.lv l6)), (1048, .arr 53 4 (List.map GEnrolment.lv r12.1))] rfl ?_ ?_
    · refine sN (oM (v := (.int _ _)) rfl ?_)
      refine sN (oAdd rfl rfl ?_)
      refine sN (oA (v := (.int _ _)) rfl ?_)
      exact s0 (Wk.to (eC rfl (eC rfl (eC rfl (eC rfl (eC rfl (eC rfl eN)))))) (mC rfl (mC rfl mN)) rfl (prK rfl))
    exact roundN (e' := Env.of [(2, .int .i64 p2), (4, .sptr [.int .i64 p1.Close, .int .i64 p1.Late]), (9, .lst 8 (List.map GEntryEvent.lv r3.1)), (11, .arr 900 (List.length r12.1)), (12, .arr 170 (List.length l6)), (13, .int .i64 (i64 (n5 + 1)))]) (m' := Mem.of [(170, .arr 76 3 (List.map GRefusal.lv l6)), (900, .arr 53 4 (List.map GEnrolment.lv r12.1))]) ((Wk.trans (Wk.to (el := [(2, .int .i64 p2), (4, .sptr [.int .i64 p1.Close, .int .i64 p1.Late]), (9, .lst 8 (List.map GEntryEvent.lv r3.1)), (11, .arr 1048 (List.length r12.1)), (12, .arr 170 (List.length l6)), (13, .int .i64 (i64 (n5 + 1)))]) (ml := [(170, .arr 76 3 (List.map GRefusal.lv l6)), (1048, .arr 53 4 (List.map GEnrolment.lv r12.1))]) (eC rfl (eC rfl (eC rfl (eC rfl (eC rfl (eC rfl eN)))))) (mC rfl (mC rfl mN)) rfl (prK rfl)) (Wk.trans (Wk.ren 1048 900 rfl rfl rfl rfl rfl (prN rfl)) (Wk.to (eC rfl (eC rfl (eC rfl (eC rfl (eC rfl (eC rfl eN)))))) (mC rfl (mC rfl mN)) rfl (prK rfl))))) ⟨(i64 (n5 + 1)), l6, r12.1, hrec1 ▸ h, rfl, rfl⟩
  replace h := iteF h hc8
  refine LH.exit ?_
  refine thenX ?_
  refine roundX ?_
  refine blockH ?_
  refine thenN ?_
  refine LH.wk ((Wk.trans (Wk.to (el := [(11, .arr 900 (List.length l7)), (12, .arr 170 (List.length l6))]) (ml := [(170, .arr 76 3 (List.map GRefusal.lv l6)), (900, .arr 53 4 (List.map GEnrolment.lv l7))]) (eC rfl (eC rfl eN)) (mC rfl (mC rfl mN)) rfl (prK rfl)) (Wk.trans (Wk.frzL (f := GRefusal.lv) (el' := [(11, .arr 900 (List.length l7)), (12, .lst 3 (List.map GRefusal.lv l6))]) 170 76 3 l6 rfl rfl (prN rfl) (fK rfl (fZ fN))) (Wk.to (el := [(11, .arr 900 (List.length l7)), (12, .lst 3 (List.map GRefusal.lv l6))]) (ml := [(900, .arr 53 4 (List.map GEnrolment.lv l7))]) (eC rfl (eC rfl eN)) (mC rfl mN) rfl (prK rfl))))) ?_
  refine LH.seqT [(6, .arr 900 (List.length l7)), (7, .lst 3 (List.map GRefusal.lv l6)), (8, .int .i64 0)] [(900, .arr 53 4 (List.map GEnrolment.lv l7))] rfl ?_ ?_
  · refine sN (oM (v := (.arr _ _)) rfl ?_)
    refine sN (oM (v := (.lst _ _)) rfl ?_)
    refine sN (oA (v := (.arr _ _)) rfl ?_)
    refine sN (oA (v := (.lst _ _)) rfl ?_)
    refine sN (oA (v := (.int _ _)) rfl ?_)
    exact s0 (Wk.to (eC rfl (eC rfl (eC rfl eN))) (mC rfl mN) rfl (prK rfl))
  refine LH.ret ?_
  obtain rfl := Option.some.inj h
  exact retE (congrArg Array.toList Try.results22) (lrT rfl (lrT rfl (lrT rfl (lr0 ⟨memN (mC rfl mN), rfl, prK rfl, (Sub.tup (sbR (sbR (sbR sbN))))⟩))))

theorem law13_same_ok {F : Nat} {p0 : List GEnrolment} {p1 : List GEnrolment} {r : Bool} (h : law13_same F p0 p1 = some r) : LCall Try.prog 23 [.lst 4 (List.map GEnrolment.lv p0), .lst 4 (List.map GEnrolment.lv p1)] (Mem.of []) (.bool r) (Mem.of []) := by
  unfold law13_same at h
  refine bodyT Try.func23 rfl (by rw [Try.ntmps23]; exact Nat.le_of_ble_eq_true rfl) ?_
  refine LH.wk (Wk.to (el := [(0, .lst 4 (List.map GEnrolment.lv p0)), (1, .lst 4 (List.map GEnrolment.lv p1))]) (ml := []) (eC rfl (eC rfl eN)) mN rfl (prK rfl)) ?_
  refine LH.seqT [(0, .lst 4 (List.map GEnrolment.lv p0)), (1, .lst 4 (List.map GEnrolment.lv p1))] [] rfl ?_ ?_
  · refine sN (oA (v := (.bool _)) rfl ?_)
    exact s0 (Wk.to (eC rfl (eC rfl eN)) mN rfl (prK rfl))
  refine LH.seq ?_
  refine LH.seqT [(0, .lst 4 (List.map GEnrolment.lv p0)), (1, .lst 4 (List.map GEnrolment.lv p1)), (10, .bool ((p0.length : Int) != (p1.length : Int)))] [] rfl ?_ ?_
  · refine sN (oM (v := (.lst _ _)) rfl ?_)
    refine sN (oLnL (f := GEnrolment.lv) te44 rfl ?_)
    refine sN (oM (v := (.lst _ _)) rfl ?_)
    refine sN (oLnL (f := GEnrolment.lv) te44 rfl ?_)
    refine sN (oNe rfl rfl ?_)
    exact s0 (Wk.to (eC rfl (eC rfl (eC rfl eN))) mN rfl (prK rfl))
  refine LH.cond (t := ((p0.length : Int) != (p1.length : Int))) rfl (fun hc1 => ?_) (fun hc1 => ?_)
  · replace h := iteT h hc1
    refine LH.seqT [(4, .bool false)] [] rfl ?_ ?_
    · refine sN (oA (v := (.bool _)) rfl ?_)
      exact s0 (Wk.to (eC rfl eN) mN rfl (prK rfl))
    refine LH.ret ?_
    refine thenR ?_
    obtain rfl := Option.some.inj h
    exact retE (congrArg Array.toList Try.results23) (lrT rfl (lr0 ⟨memN mN, rfl, prK rfl, Sub.rfl⟩))
  replace h := iteF h hc1
  refine LH.skip ?_
  refine thenN ?_
  refine LH.wk (Wk.to (el := [(0, .lst 4 (List.map GEnrolment.lv p0)), (1, .lst 4 (List.map GEnrolment.lv p1))]) (ml := []) (eC rfl (eC rfl eN)) mN rfl (prK rfl)) ?_
  refine LH.seq ?_
  refine LH.seqT [(0, .lst 4 (List.map GEnrolment.lv p0)), (1, .lst 4 (List.map GEnrolment.lv p1)), (5, .int .i64 0)] [] rfl ?_ ?_
  · refine sN (oA (v := (.int _ _)) rfl ?_)
    exact s0 (Wk.to (eC rfl (eC rfl (eC rfl eN))) mN rfl (prK rfl))
  refine LH.block ?_
  refine LH.loop (fun n e m => ∃ (n2 : Int), law13_same_L1 p0 p1 n n2 = some r ∧ e = Env.of [(0, .lst 4 (List.map GEnrolment.lv p0)), (1, .lst 4 (List.map GEnrolment.lv p1)), (5, .int .i64 n2)] ∧ m = Mem.of []) F ⟨0, h, rfl, rfl⟩ ?_
  clear h
  rintro n e m ⟨n2, h, rfl, rfl⟩
  rcases n with _ | n
  · cases (show Option.none = some _ from h)
  obtain ⟨rec1, hrec1⟩ : ∃ f, f = law13_same_L1 p0 p1 n := ⟨_, rfl⟩
  replace h : law13_same_L1_B p0 p1 rec1 n2 = some r := hrec1 ▸ h
  unfold law13_same_L1_B at h
  refine LH.seq ?_
  refine LH.seqT [(0, .lst 4 (List.map GEnrolment.lv p0)), (1, .lst 4 (List.map GEnrolment.lv p1)), (5, .int .i64 n2), (14, .bool (decide (n2 < (p0.length : Int))))] [] rfl ?_ ?_
  · refine sN (oM (v := (.int _ _)) rfl ?_)
    refine sN (oM (v := (.lst _ _)) rfl ?_)
    refine sN (oLnL (f := GEnrolment.lv) te44 rfl ?_)
    refine sN (oLt rfl rfl ?_)
    exact s0 (Wk.to (eC rfl (eC rfl (eC rfl (eC rfl eN)))) mN rfl (prK rfl))
  refine LH.cond (t := (decide (n2 < (p0.length : Int)))) rfl (fun hc3 => ?_) (fun hc3 => ?_)
  · replace h := iteT h hc3
    refine LH.skip ?_
    refine thenN ?_
    refine LH.wk (Wk.to (el := [(0, .lst 4 (List.map GEnrolment.lv p0)), (1, .lst 4 (List.map GEnrolment.lv p1)), (5, .int .i64 n2)]) (ml := []) (eC rfl (eC rfl (eC rfl eN))) mN rfl (prK rfl)) ?_
    refine LH.seq ?_
    refine LH.block ?_
    obtain ⟨x4, hx4, h⟩ := bindS h
    obtain ⟨x5, hx5, h⟩ := bindS h
    refine LH.seqJM mixed [] [0, 0, 0, 0, 0, 0, 0, 0, 0] [(0, .lst 4 (List.map GEnrolment.lv p0)), (1, .lst 4 (List.map GEnrolment.lv p1)), (5, .int .i64 n2), (25, .bool (!(decide (x4 = x5))))] [] rfl rfl (by kernel_rfl) ?_ ?_
    · refine mN0 (oM (v := (.lst _ _)) rfl ⟨rfl, ?_⟩)
      refine mN0 (oM (v := (.int _ _)) rfl ⟨rfl, ?_⟩)
      refine mN0 (oIx (f := GEnrolment.lv) te44 tk53 ts53 rfl rfl GEnrolment.ok hx4 rfl ⟨rfl, ?_⟩)
      refine mN0 (oLdA rfl tk53 ta53 ts53 rfl rfl ⟨rfl, ?_⟩)
      refine mN0 (oM (v := (.lst _ _)) rfl ⟨rfl, ?_⟩)
      refine mN0 (oM (v := (.int _ _)) rfl ⟨rfl, ?_⟩)
      refine mN0 (oIx (f := GEnrolment.lv) te44 tk53 ts53 rfl rfl GEnrolment.ok hx5 rfl ⟨rfl, ?_⟩)
      refine mN0 (oLdA rfl tk53 ta53 ts53 rfl rfl ⟨rfl, ?_⟩)
      refine mN0 (oNeA rfl rfl (ae53 x4 x5) ⟨rfl, ?_⟩)
      exact m0 (Wk.to (eC rfl (eC rfl (eC rfl (eC rfl eN)))) mN rfl (prK rfl))
    refine LH.cond (t := (!(decide (x4 = x5)))) rfl (fun hc6 => ?_) (fun hc6 => ?_)
    · replace h := iteT h hc6
      refine LH.seqT [(4, .bool false)] [] rfl ?_ ?_
      · refine sN (oA (v := (.bool _)) rfl ?_)
        exact s0 (Wk.to (eC rfl eN) mN rfl (prK rfl))
      refine LH.ret ?_
      refine blockR ?_
      refine thenR ?_
      refine roundR ?_
      refine blockR ?_
      refine thenR ?_
      obtain rfl := Option.some.inj h
      exact retE (congrArg Array.toList Try.results23) (lrT rfl (lr0 ⟨memN mN, rfl, prK rfl, Sub.rfl⟩))
    replace h := iteF h hc6
    refine LH.skip ?_
    refine blockN ?_
    refine thenN ?_
    refine LH.wk (Wk.to (el := [(0, .lst 4 (List.map GEnrolment.lv p0)), (1, .lst 4 (List.map GEnrolment.lv p1)), (5, .int .i64 n2)]) (ml := []) (eC rfl (eC rfl (eC rfl eN))) mN rfl (prK rfl)) ?_
    refine LH.loneT [(0, .lst 4 (List.map GEnrolment.lv p0)), (1, .lst 4 (List.map GEnrolment.lv p1)), (5, .int .i64 (i64 (n2 + 1)))] [] rfl ?_ ?_
    · refine sN (oM (v := (.int _ _)) rfl ?_)
      refine sN (oAdd rfl rfl ?_)
      refine sN (oA (v := (.int _ _)) rfl ?_)
      exact s0 (Wk.to (eC rfl (eC rfl (eC rfl eN))) mN rfl (prK rfl))
    exact roundN (e' := Env.of [(0, .lst 4 (List.map GEnrolment.lv p0)), (1, .lst 4 (List.map GEnrolment.lv p1)), (5, .int .i64 (i64 (n2 + 1)))]) (m' := Mem.of []) (Wk.to (eC rfl (eC rfl (eC rfl eN))) mN rfl (prK rfl)) ⟨(i64 (n2 + 1)), hrec1 ▸ h, rfl, rfl⟩
  replace h := iteF h hc3
  refine LH.exit ?_
  refine thenX ?_
  refine roundX ?_
  refine blockH ?_
  refine thenN ?_
  refine LH.wk (Wk.to (el := []) (ml := []) eN mN rfl (prK rfl)) ?_
  refine LH.seqT [(4, .bool true)] [] rfl ?_ ?_
  · refine sN (oA (v := (.bool _)) rfl ?_)
    exact s0 (Wk.to (eC rfl eN) mN rfl (prK rfl))
  refine LH.ret ?_
  obtain rfl := Option.some.inj h
  exact retE (congrArg Array.toList Try.results23) (lrT rfl (lr0 ⟨memN mN, rfl, prK rfl, Sub.rfl⟩))

theorem law13_refusals_ok {F : Nat} {p0 : List GRefusal} {p1 : List GRefusal} {r : Bool} (h : law13_refusals F p0 p1 = some r) : LCall Try.prog 24 [.lst 3 (List.map GRefusal.lv p0), .lst 3 (List.map GRefusal.lv p1)] (Mem.of []) (.bool r) (Mem.of []) := by
  unfold law13_refusals at h
  refine bodyT Try.func24 rfl (by rw [Try.ntmps24]; exact Nat.le_of_ble_eq_true rfl) ?_
  refine LH.wk (Wk.to (el := [(0, .lst 3 (List.map GRefusal.lv p0)), (1, .lst 3 (List.map GRefusal.lv p1))]) (ml := []) (eC rfl (eC rfl eN)) mN rfl (prK rfl)) ?_
  refine LH.seqT [(0, .lst 3 (List.map GRefusal.lv p0)), (1, .lst 3 (List.map GRefusal.lv p1))] [] rfl ?_ ?_
  · refine sN (oA (v := (.bool _)) rfl ?_)
    exact s0 (Wk.to (eC rfl (eC rfl eN)) mN rfl (prK rfl))
  refine LH.seq ?_
  refine LH.seqT [(0, .lst 3 (List.map GRefusal.lv p0)), (1, .lst 3 (List.map GRefusal.lv p1)), (10, .bool ((p0.length : Int) != (p1.length : Int)))] [] rfl ?_ ?_
  · refine sN (oM (v := (.lst _ _)) rfl ?_)
    refine sN (oLnL (f := GRefusal.lv) te45 rfl ?_)
    refine sN (oM (v := (.lst _ _)) rfl ?_)
    refine sN (oLnL (f := GRefusal.lv) te45 rfl ?_)
    refine sN (oNe rfl rfl ?_)
    exact s0 (Wk.to (eC rfl (eC rfl (eC rfl eN))) mN rfl (prK rfl))
  refine LH.cond (t := ((p0.length : Int) != (p1.length : Int))) rfl (fun hc1 => ?_) (fun hc1 => ?_)
  · replace h := iteT h hc1
    refine LH.seqT [(4, .bool false)] [] rfl ?_ ?_
    · refine sN (oA (v := (.bool _)) rfl ?_)
      exact s0 (Wk.to (eC rfl eN) mN rfl (prK rfl))
    refine LH.ret ?_
    refine thenR ?_
    obtain rfl := Option.some.inj h
    exact retE (congrArg Array.toList Try.results24) (lrT rfl (lr0 ⟨memN mN, rfl, prK rfl, Sub.rfl⟩))
  replace h := iteF h hc1
  refine LH.skip ?_
  refine thenN ?_
  refine LH.wk (Wk.to (el := [(0, .lst 3 (List.map GRefusal.lv p0)), (1, .lst 3 (List.map GRefusal.lv p1))]) (ml := []) (eC rfl (eC rfl eN)) mN rfl (prK rfl)) ?_
  refine LH.seq ?_
  refine LH.seqT [(0, .lst 3 (List.map GRefusal.lv p0)), (1, .lst 3 (List.map GRefusal.lv p1)), (5, .int .i64 0)] [] rfl ?_ ?_
  · refine sN (oA (v := (.int _ _)) rfl ?_)
    exact s0 (Wk.to (eC rfl (eC rfl (eC rfl eN))) mN rfl (prK rfl))
  refine LH.block ?_
  refine LH.loop (fun n e m => ∃ (n2 : Int), law13_refusals_L1 p0 p1 n n2 = some r ∧ e = Env.of [(0, .lst 3 (List.map GRefusal.lv p0)), (1, .lst 3 (List.map GRefusal.lv p1)), (5, .int .i64 n2)] ∧ m = Mem.of []) F ⟨0, h, rfl, rfl⟩ ?_
  clear h
  rintro n e m ⟨n2, h, rfl, rfl⟩
  rcases n with _ | n
  · cases (show Option.none = some _ from h)
  obtain ⟨rec1, hrec1⟩ : ∃ f, f = law13_refusals_L1 p0 p1 n := ⟨_, rfl⟩
  replace h : law13_refusals_L1_B p0 p1 rec1 n2 = some r := hrec1 ▸ h
  unfold law13_refusals_L1_B at h
  refine LH.seq ?_
  refine LH.seqT [(0, .lst 3 (List.map GRefusal.lv p0)), (1, .lst 3 (List.map GRefusal.lv p1)), (5, .int .i64 n2), (14, .bool (decide (n2 < (p0.length : Int))))] [] rfl ?_ ?_
  · refine sN (oM (v := (.int _ _)) rfl ?_)
    refine sN (oM (v := (.lst _ _)) rfl ?_)
    refine sN (oLnL (f := GRefusal.lv) te45 rfl ?_)
    refine sN (oLt rfl rfl ?_)
    exact s0 (Wk.to (eC rfl (eC rfl (eC rfl (eC rfl eN)))) mN rfl (prK rfl))
  refine LH.cond (t := (decide (n2 < (p0.length : Int)))) rfl (fun hc3 => ?_) (fun hc3 => ?_)
  · replace h := iteT h hc3
    refine LH.skip ?_
    refine thenN ?_
    refine LH.wk (Wk.to (el := [(0, .lst 3 (List.map GRefusal.lv p0)), (1, .lst 3 (List.map GRefusal.lv p1)), (5, .int .i64 n2)]) (ml := []) (eC rfl (eC rfl (eC rfl eN))) mN rfl (prK rfl)) ?_
    refine LH.seq ?_
    refine LH.block ?_
    obtain ⟨x4, hx4, h⟩ := bindS h
    obtain ⟨x5, hx5, h⟩ := bindS h
    refine LH.seqJM mixed [] [0, 0, 0, 0, 0, 0, 0, 0, 0] [(0, .lst 3 (List.map GRefusal.lv p0)), (1, .lst 3 (List.map GRefusal.lv p1)), (5, .int .i64 n2), (25, .bool (!(decide (x4 = x5))))] [] rfl rfl (by kernel_rfl) ?_ ?_
    · refine mN0 (oM (v := (.lst _ _)) rfl ⟨rfl, ?_⟩)
      refine mN0 (oM (v := (.int _ _)) rfl ⟨rfl, ?_⟩)
      refine mN0 (oIx (f := GRefusal.lv) te45 tk76 ts76 rfl rfl GRefusal.ok hx4 rfl ⟨rfl, ?_⟩)
      refine mN0 (oLdA rfl tk76 ta76 ts76 rfl rfl ⟨rfl, ?_⟩)
      refine mN0 (oM (v := (.lst _ _)) rfl ⟨rfl, ?_⟩)
      refine mN0 (oM (v := (.int _ _)) rfl ⟨rfl, ?_⟩)
      refine mN0 (oIx (f := GRefusal.lv) te45 tk76 ts76 rfl rfl GRefusal.ok hx5 rfl ⟨rfl, ?_⟩)
      refine mN0 (oLdA rfl tk76 ta76 ts76 rfl rfl ⟨rfl, ?_⟩)
      refine mN0 (oNeA rfl rfl (ae76 x4 x5) ⟨rfl, ?_⟩)
      exact m0 (Wk.to (eC rfl (eC rfl (eC rfl (eC rfl eN)))) mN rfl (prK rfl))
    refine LH.cond (t := (!(decide (x4 = x5)))) rfl (fun hc6 => ?_) (fun hc6 => ?_)
    · replace h := iteT h hc6
      refine LH.seqT [(4, .bool false)] [] rfl ?_ ?_
      · refine sN (oA (v := (.bool _)) rfl ?_)
        exact s0 (Wk.to (eC rfl eN) mN rfl (prK rfl))
      refine LH.ret ?_
      refine blockR ?_
      refine thenR ?_
      refine roundR ?_
      refine blockR ?_
      refine thenR ?_
      obtain rfl := Option.some.inj h
      exact retE (congrArg Array.toList Try.results24) (lrT rfl (lr0 ⟨memN mN, rfl, prK rfl, Sub.rfl⟩))
    replace h := iteF h hc6
    refine LH.skip ?_
    refine blockN ?_
    refine thenN ?_
    refine LH.wk (Wk.to (el := [(0, .lst 3 (List.map GRefusal.lv p0)), (1, .lst 3 (List.map GRefusal.lv p1)), (5, .int .i64 n2)]) (ml := []) (eC rfl (eC rfl (eC rfl eN))) mN rfl (prK rfl)) ?_
    refine LH.loneT [(0, .lst 3 (List.map GRefusal.lv p0)), (1, .lst 3 (List.map GRefusal.lv p1)), (5, .int .i64 (i64 (n2 + 1)))] [] rfl ?_ ?_
    · refine sN (oM (v := (.int _ _)) rfl ?_)
      refine sN (oAdd rfl rfl ?_)
      refine sN (oA (v := (.int _ _)) rfl ?_)
      exact s0 (Wk.to (eC rfl (eC rfl (eC rfl eN))) mN rfl (prK rfl))
    exact roundN (e' := Env.of [(0, .lst 3 (List.map GRefusal.lv p0)), (1, .lst 3 (List.map GRefusal.lv p1)), (5, .int .i64 (i64 (n2 + 1)))]) (m' := Mem.of []) (Wk.to (eC rfl (eC rfl (eC rfl eN))) mN rfl (prK rfl)) ⟨(i64 (n2 + 1)), hrec1 ▸ h, rfl, rfl⟩
  replace h := iteF h hc3
  refine LH.exit ?_
  refine thenX ?_
  refine roundX ?_
  refine blockH ?_
  refine thenN ?_
  refine LH.wk (Wk.to (el := []) (ml := []) eN mN rfl (prK rfl)) ?_
  refine LH.seqT [(4, .bool true)] [] rfl ?_ ?_
  · refine sN (oA (v := (.bool _)) rfl ?_)
    exact s0 (Wk.to (eC rfl eN) mN rfl (prK rfl))
  refine LH.ret ?_
  obtain rfl := Option.some.inj h
  exact retE (congrArg Array.toList Try.results24) (lrT rfl (lr0 ⟨memN mN, rfl, prK rfl, Sub.rfl⟩))

theorem entry_Find_ok {F : Nat} {p0 : List GEnrolment} {p1 : Int} {p2 : Int} {r : GEnrolment × Bool} (h : entry_Find F p0 p1 p2 = some r) : LCall Try.prog 27 [.lst 4 (List.map GEnrolment.lv p0), .int .i64 p1, .int .i64 p2] (Mem.of []) (.tup [.agg [.int .i64 r.1.Entry.Candidate, .int .i64 r.1.Entry.Centre, .int .i64 r.1.Entry.Paper, .bool r.1.Late], .bool r.2]) (Mem.of []) := by
  unfold entry_Find at h
  refine bodyT Try.func27 rfl (by rw [Try.ntmps27]; exact Nat.le_of_ble_eq_true rfl) ?_
  refine LH.wk (Wk.to (el := [(0, .lst 4 (List.map GEnrolment.lv p0)), (1, .int .i64 p1), (2, .int .i64 p2)]) (ml := []) (eC rfl (eC rfl (eC rfl eN))) mN rfl (prK rfl)) ?_
  refine LH.seqT [(0, .lst 4 (List.map GEnrolment.lv p0)), (1, .int .i64 p1), (2, .int .i64 p2), (6, .ptr 106 0)] [(106, .box [.int .i64 0, .int .i64 0, .int .i64 0, .bool false])] rfl ?_ ?_
  · refine sN (oAl (id := 106) rfl tz53 rfl rfl ?_)
    refine sN (oA (v := (.bool _)) rfl ?_)
    exact s0 (Wk.to (eC rfl (eC rfl (eC rfl (eC rfl eN)))) (mC rfl mN) rfl (prK rfl))
  refine LH.seq ?_
  refine LH.seqT [(1, .int .i64 p1), (2, .int .i64 p2), (6, .ptr 106 0), (10, .lst 4 (List.map GEnrolment.lv p0)), (11, .int .i64 (p0.length : Int)), (12, .int .i64 0)] [(106, .box [.int .i64 0, .int .i64 0, .int .i64 0, .bool false])] rfl ?_ ?_
  · refine sN (oM (v := (.lst _ _)) rfl ?_)
    refine sN (oLnL (f := GEnrolment.lv) te44 rfl ?_)
    refine sN (oM (v := (.int _ _)) rfl ?_)
    exact s0 (Wk.to (eC rfl (eC rfl (eC rfl (eC rfl (eC rfl (eC rfl eN)))))) (mC rfl mN) rfl (prK rfl))
  refine LH.block ?_
  refine LH.loop (fun n e m => ∃ (n1 : Int), entry_Find_L1 p0 p1 p2 n n1 = some r ∧ e = Env.of [(1, .int .i64 p1), (2, .int .i64 p2), (6, .ptr 106 0), (10, .lst 4 (List.map GEnrolment.lv p0)), (11, .int .i64 (p0.length : Int)), (12, .int .i64 n1)] ∧ m = Mem.of [(106, .box [.int .i64 0, .int .i64 0, .int .i64 0, .bool false])]) F ⟨0, h, rfl, rfl⟩ ?_
  clear h
  rintro n e m ⟨n1, h, rfl, rfl⟩
  rcases n with _ | n
  · cases (show Option.none = some _ from h)
  obtain ⟨rec1, hrec1⟩ : ∃ f, f = entry_Find_L1 p0 p1 p2 n := ⟨_, rfl⟩
  replace h : entry_Find_L1_B p0 p1 p2 rec1 n1 = some r := hrec1 ▸ h
  unfold entry_Find_L1_B at h
  refine LH.seqT [(1, .int .i64 p1), (2, .int .i64 p2), (6, .ptr 106 0), (10, .lst 4 (List.map GEnrolment.lv p0)), (11, .int .i64 (p0.length : Int)), (12, .int .i64 n1), (13, .bool (decide (n1 < (p0.length : Int))))] [(106, .box [.int .i64 0, .int .i64 0, .int .i64 0, .bool false])] rfl ?_ ?_
  · refine sN (oLt rfl rfl ?_)
    exact s0 (Wk.to (eC rfl (eC rfl (eC rfl (eC rfl (eC rfl (eC rfl (eC rfl eN))))))) (mC rfl mN) rfl (prK rfl))
  refine LH.seq ?_
  refine LH.cond (t := (decide (n1 < (p0.length : Int)))) rfl (fun hc2 => ?_) (fun hc2 => ?_)
  · replace h := iteT h hc2
    refine LH.skip ?_
    refine thenN ?_
    refine LH.wk (Wk.to (el := [(1, .int .i64 p1), (2, .int .i64 p2), (6, .ptr 106 0), (10, .lst 4 (List.map GEnrolment.lv p0)), (11, .int .i64 (p0.length : Int)), (12, .int .i64 n1)]) (ml := [(106, .box [.int .i64 0, .int .i64 0, .int .i64 0, .bool false])]) (eC rfl (eC rfl (eC rfl (eC rfl (eC rfl (eC rfl eN)))))) (mC rfl mN) rfl (prK rfl)) ?_
    refine LH.seq ?_
    refine LH.block ?_
    obtain ⟨x3, hx3, h⟩ := bindS h
    refine LH.seqT [(1, .int .i64 p1), (2, .int .i64 p2), (6, .ptr 106 0), (9, .sptr [.int .i64 x3.Entry.Candidate, .int .i64 x3.Entry.Centre, .int .i64 x3.Entry.Paper, .bool x3.Late]), (10, .lst 4 (List.map GEnrolment.lv p0)), (11, .int .i64 (p0.length : Int)), (12, .int .i64 n1)] [(106, .box [.int .i64 0, .int .i64 0, .int .i64 0, .bool false])] rfl ?_ ?_
    · refine sN (oIx (f := GEnrolment.lv) te44 tk53 ts53 rfl rfl GEnrolment.ok hx3 rfl ?_)
      refine sN (oLdA rfl tk53 ta53 ts53 rfl rfl ?_)
      refine sN (oAl (id := 109) rfl tz53 rfl rfl ?_)
      refine s_ (oSt rfl rfl rfl tk53 ts53 rfl rfl rfl ?_)
      exact s0 ((Wk.trans (Wk.to (el := [(1, .int .i64 p1), (2, .int .i64 p2), (6, .ptr 106 0), (9, .ptr 109 0), (10, .lst 4 (List.map GEnrolment.lv p0)), (11, .int .i64 (p0.length : Int)), (12, .int .i64 n1)]) (ml := [(106, .box [.int .i64 0, .int .i64 0, .int .i64 0, .bool false]), (109, .box [.int .i64 x3.Entry.Candidate, .int .i64 x3.Entry.Centre, .int .i64 x3.Entry.Paper, .bool x3.Late])]) (eC rfl (eC rfl (eC rfl (eC rfl (eC rfl (eC rfl (eC rfl eN))))))) (mC rfl (mC rfl mN)) rfl (prK rfl)) (Wk.trans (Wk.frzB 109 [.int .i64 x3.Entry.Candidate, .int .i64 x3.Entry.Centre, .int .i64 x3.Entry.Paper, .bool x3.Late] rfl rfl rfl (prN rfl)) (Wk.to (eC rfl (eC rfl (eC rfl (eC rfl (eC rfl (eC rfl (eC rfl eN))))))) (mC rfl mN) rfl (prK rfl)))))
    refine LH.seqT [(1, .int .i64 p1), (2, .int .i64 p2), (6, .ptr 106 0), (9, .sptr [.int .i64 x3.Entry.Candidate, .int .i64 x3.Entry.Centre, .int .i64 x3.Entry.Paper, .bool x3.Late]), (10, .lst 4 (List.map GEnrolment.lv p0)), (11, .int .i64 (p0.length : Int)), (12, .int .i64 n1), (27, .bool ((x3.Entry.Candidate == p1) && (x3.Entry.Paper == p2)))] [(106, .box [.int .i64 0, .int .i64 0, .int .i64 0, .bool false])] rfl ?_ ?_
    · refine sN (oFaS tf53_0 tk33 ts33 rfl rfl rfl ?_)
      refine sN (oFaS tf33_0 tk3 ts3 rfl rfl rfl ?_)
      refine sN (oLd rfl tk3 ta3 ?_)
      refine sN (oM (v := (.int _ _)) rfl ?_)
      refine sN (oEq rfl rfl ?_)
      refine sN (oM (v := (.bool _)) rfl ?_)
      by_cases hb5 : (x3.Entry.Candidate == p1) = true
      · refine sT rfl (congrArg LV.bool hb5) (oFaS tf53_0 tk33 ts33 rfl rfl rfl ?_)
        refine sT rfl (congrArg LV.bool hb5) (oFaS tf33_2 tk3 ts3 rfl rfl rfl ?_)
        refine sT rfl (congrArg LV.bool hb5) (oLd rfl tk3 ta3 ?_)
        refine sT rfl (congrArg LV.bool hb5) (oM (v := (.int _ _)) rfl ?_)
        refine sT rfl (congrArg LV.bool hb5) (oEq rfl rfl ?_)
        refine sN (oPkT (congrArg LV.bool hb5) (v := (.bool _)) rfl ?_)
        exact s0 (Wk.to (eC rfl (eC rfl (eC rfl (eC rfl (eC rfl (eC rfl (eC rfl (eC (congrArg LV.bool (andT hb5)) eN)))))))) (mC rfl mN) rfl (prK rfl))
      · replace hb5 := bF hb5
        refine sF rfl rfl hb5 ?_
        refine sF rfl rfl hb5 ?_
        refine sF rfl rfl hb5 ?_
        refine sF rfl rfl hb5 ?_
        refine sF rfl rfl hb5 ?_
        refine sN (oPkF (congrArg LV.bool hb5) (v := (.bool _)) rfl ?_)
        exact s0 (Wk.to (eC rfl (eC rfl (eC rfl (eC rfl (eC rfl (eC rfl (eC rfl (eC (congrArg LV.bool (andF hb5)) eN)))))))) (mC rfl mN) rfl (prK rfl))
    refine LH.cond (t := ((x3.Entry.Candidate == p1) && (x3.Entry.Paper == p2))) rfl (fun hc6 => ?_) (fun hc6 => ?_)
    · replace h := iteT h hc6
      refine LH.seqT [(6, .sptr [.int .i64 x3.Entry.Candidate, .int .i64 x3.Entry.Centre, .int .i64 x3.Entry.Paper, .bool x3.Late]), (7, .bool true)] [] rfl ?_ ?_
      · refine sN (oLdA rfl tk53 ta53 ts53 rfl rfl ?_)
        refine s_ (oSt rfl rfl rfl tk53 ts53 rfl rfl rfl ?_)
        refine sN (oA (v := (.bool _)) rfl ?_)
        exact s0 ((Wk.trans (Wk.to (el := [(6, .ptr 106 0), (7, .bool true)]) (ml := [(106, .box [.int .i64 x3.Entry.Candidate, .int .i64 x3.Entry.Centre, .int .i64 x3.Entry.Paper, .bool x3.Late])]) (eC rfl (eC rfl eN)) (mC rfl mN) rfl (prK rfl)) (Wk.trans (Wk.frzB 106 [.int .i64 x3.Entry.Candidate, .int .i64 x3.Entry.Centre, .int .i64 x3.Entry.Paper, .bool x3.Late] rfl rfl rfl (prN rfl)) (Wk.to (eC rfl (eC rfl eN)) mN rfl (prK rfl)))))
      refine LH.ret ?_
      refine blockR ?_
      refine thenR ?_
      refine roundR ?_
      refine blockR ?_
      refine thenR ?_
      obtain rfl := Option.some.inj h
      exact retE (congrArg Array.toList Try.results27) (lrSA rfl tk53 ta53 ts53 rfl rfl (lrT rfl (lr0 ⟨memN mN, rfl, prK rfl, (Sub.tup (sbR (sbR sbN)))⟩)))
    replace h := iteF h hc6
    refine LH.skip ?_
    refine blockN ?_
    refine thenN ?_
    refine LH.wk (Wk.to (el := [(1, .int .i64 p1), (2, .int .i64 p2), (6, .ptr 106 0), (10, .lst 4 (List.map GEnrolment.lv p0)), (11, .int .i64 (p0.length : Int)), (12, .int .i64 n1)]) (ml := [(106, .box [.int .i64 0, .int .i64 0, .int .i64 0, .bool false])]) (eC rfl (eC rfl (eC rfl (eC rfl (eC rfl (eC rfl eN)))))) (mC rfl mN) rfl (prK rfl)) ?_
    refine LH.loneT [(1, .int .i64 p1), (2, .int .i64 p2), (6, .ptr 106 0), (10, .lst 4 (List.map GEnrolment.lv p0)), (11, .int .i64 (p0.length : Int)), (12, .int .i64 (i64 (n1 + 1)))] [(106, .box [.int .i64 0, .int .i64 0, .int .i64 0, .bool false])] rfl ?_ ?_
    · refine sN (oAdd rfl rfl ?_)
      refine sN (oM (v := (.int _ _)) rfl ?_)
      exact s0 (Wk.to (eC rfl (eC rfl (eC rfl (eC rfl (eC rfl (eC rfl eN)))))) (mC rfl mN) rfl (prK rfl))
    exact roundN (e' := Env.of [(1, .int .i64 p1), (2, .int .i64 p2), (6, .ptr 106 0), (10, .lst 4 (List.map GEnrolment.lv p0)), (11, .int .i64 (p0.length : Int)), (12, .int .i64 (i64 (n1 + 1)))]) (m' := Mem.of [(106, .box [.int .i64 0, .int .i64 0, .int .i64 0, .bool false])]) (Wk.to (eC rfl (eC rfl (eC rfl (eC rfl (eC rfl (eC rfl eN)))))) (mC rfl mN) rfl (prK rfl)) ⟨(i64 (n1 + 1)), hrec1 ▸ h, rfl, rfl⟩
  replace h := iteF h hc2
  refine LH.exit ?_
  refine thenX ?_
  refine roundX ?_
  refine blockH ?_
  refine thenN ?_
  refine LH.wk (Wk.to (el := [(6, .ptr 106 0)]) (ml := [(106, .box [.int .i64 0, .int .i64 0, .int .i64 0, .bool false])]) (eC rfl eN) (mC rfl mN) rfl (prK rfl)) ?_
  refine LH.seqT [(6, .sptr [.int .i64 0, .int .i64 0, .int .i64 0, .bool false]), (7, .bool false)] [] rfl ?_ ?_
  · refine sN (oBd (vs := []) tu53 tz53 rfl lf0 ?_)
    refine s_ (oSt rfl rfl rfl tk53 ts53 rfl rfl rfl ?_)
    refine sN (oA (v := (.bool _)) rfl ?_)
    exact s0 ((Wk.trans (Wk.to (el := [(6, .ptr 106 0), (7, .bool false)]) (ml := [(106, .box [.int .i64 0, .int .i64 0, .int .i64 0, .bool false])]) (eC rfl (eC rfl eN)) (mC rfl mN) rfl (prK rfl)) (Wk.trans (Wk.frzB 106 [.int .i64 0, .int .i64 0, .int .i64 0, .bool false] rfl rfl rfl (prN rfl)) (Wk.to (eC rfl (eC rfl eN)) mN rfl (prK rfl)))))
  refine LH.ret ?_
  obtain rfl := Option.some.inj h
  exact retE (congrArg Array.toList Try.results27) (lrSA rfl tk53 ta53 ts53 rfl rfl (lrT rfl (lr0 ⟨memN mN, rfl, prK rfl, (Sub.tup (sbR (sbR sbN)))⟩)))

theorem entry_valid_ok {F : Nat} {p0 : List GEnrolment} {r : Bool} (h : entry_valid F p0 = some r) : LCall Try.prog 46 [.lst 4 (List.map GEnrolment.lv p0)] (Mem.of []) (.bool r) (Mem.of []) := by
  unfold entry_valid at h
  refine bodyT Try.func46 rfl (by rw [Try.ntmps46]; exact Nat.le_of_ble_eq_true rfl) ?_
  refine LH.wk (Wk.to (el := [(0, .lst 4 (List.map GEnrolment.lv p0))]) (ml := []) (eC rfl eN) mN rfl (prK rfl)) ?_
  refine LH.seqT [(0, .lst 4 (List.map GEnrolment.lv p0))] [] rfl ?_ ?_
  · refine sN (oA (v := (.bool _)) rfl ?_)
    exact s0 (Wk.to (eC rfl eN) mN rfl (prK rfl))
  refine LH.seq ?_
  refine LH.seqT [(0, .lst 4 (List.map GEnrolment.lv p0)), (7, .bool (decide ((p0.length : Int) > 300)))] [] rfl ?_ ?_
  · refine sN (oM (v := (.lst _ _)) rfl ?_)
    refine sN (oLnL (f := GEnrolment.lv) te44 rfl ?_)
    refine sN (oGt rfl rfl ?_)
    exact s0 (Wk.to (eC rfl (eC rfl eN)) mN rfl (prK rfl))
  refine LH.cond (t := (decide ((p0.length : Int) > 300))) rfl (fun hc1 => ?_) (fun hc1 => ?_)
  · replace h := iteT h hc1
    refine LH.seqT [(2, .bool false)] [] rfl ?_ ?_
    · refine sN (oA (v := (.bool _)) rfl ?_)
      exact s0 (Wk.to (eC rfl eN) mN rfl (prK rfl))
    refine LH.ret ?_
    refine thenR ?_
    obtain rfl := Option.some.inj h
    exact retE (congrArg Array.toList Try.results46) (lrT rfl (lr0 ⟨memN mN, rfl, prK rfl, Sub.rfl⟩))
  replace h := iteF h hc1
  refine LH.skip ?_
  refine thenN ?_
  refine LH.wk (Wk.to (el := [(0, .lst 4 (List.map GEnrolment.lv p0))]) (ml := []) (eC rfl eN) mN rfl (prK rfl)) ?_
  refine LH.seq ?_
  refine LH.seqT [(0, .lst 4 (List.map GEnrolment.lv p0)), (8, .lst 4 (List.map GEnrolment.lv p0)), (9, .int .i64 (p0.length : Int)), (10, .int .i64 0)] [] rfl ?_ ?_
  · refine sN (oM (v := (.lst _ _)) rfl ?_)
    refine sN (oLnL (f := GEnrolment.lv) te44 rfl ?_)
    refine sN (oM (v := (.int _ _)) rfl ?_)
    exact s0 (Wk.to (eC rfl (eC rfl (eC rfl (eC rfl eN)))) mN rfl (prK rfl))
  refine LH.block ?_
  refine LH.loop (fun n e m => ∃ (n2 : Int), entry_valid_L1 F p0 n n2 = some r ∧ e = Env.of [(0, .lst 4 (List.map GEnrolment.lv p0)), (8, .lst 4 (List.map GEnrolment.lv p0)), (9, .int .i64 (p0.length : Int)), (10, .int .i64 n2)] ∧ m = Mem.of []) F ⟨0, h, rfl, rfl⟩ ?_
  clear h
  rintro n e m ⟨n2, h, rfl, rfl⟩
  rcases n with _ | n
  · cases (show Option.none = some _ from h)
  obtain ⟨rec1, hrec1⟩ : ∃ f, f = entry_valid_L1 F p0 n := ⟨_, rfl⟩
  replace h : entry_valid_L1_B F p0 rec1 n2 = some r := hrec1 ▸ h
  unfold entry_valid_L1_B at h
  refine LH.seqT [(0, .lst 4 (List.map GEnrolment.lv p0)), (8, .lst 4 (List.map GEnrolment.lv p0)), (9, .int .i64 (p0.length : Int)), (10, .int .i64 n2), (11, .bool (decide (n2 < (p0.length : Int))))] [] rfl ?_ ?_
  · refine sN (oLt rfl rfl ?_)
    exact s0 (Wk.to (eC rfl (eC rfl (eC rfl (eC rfl (eC rfl eN))))) mN rfl (prK rfl))
  refine LH.seq ?_
  refine LH.cond (t := (decide (n2 < (p0.length : Int)))) rfl (fun hc3 => ?_) (fun hc3 => ?_)
  · replace h := iteT h hc3
    refine LH.skip ?_
    refine thenN ?_
    refine LH.wk (Wk.to (el := [(0, .lst 4 (List.map GEnrolment.lv p0)), (8, .lst 4 (List.map GEnrolment.lv p0)), (9, .int .i64 (p0.length : Int)), (10, .int .i64 n2)]) (ml := []) (eC rfl (eC rfl (eC rfl (eC rfl eN)))) mN rfl (prK rfl)) ?_
    refine LH.seq ?_
    refine LH.block ?_
    obtain ⟨x4, hx4, h⟩ := bindS h
    refine LH.seqT [(0, .lst 4 (List.map GEnrolment.lv p0)), (3, .int .i64 n2), (4, .sptr [.int .i64 x4.Entry.Candidate, .int .i64 x4.Entry.Centre, .int .i64 x4.Entry.Paper, .bool x4.Late]), (8, .lst 4 (List.map GEnrolment.lv p0)), (9, .int .i64 (p0.length : Int)), (10, .int .i64 n2)] [] rfl ?_ ?_
    · refine sN (oM (v := (.int _ _)) rfl ?_)
      refine sN (oIx (f := GEnrolment.lv) te44 tk53 ts53 rfl rfl GEnrolment.ok hx4 rfl ?_)
      refine sN (oLdA rfl tk53 ta53 ts53 rfl rfl ?_)
      refine sN (oAl (id := 104) rfl tz53 rfl rfl ?_)
      refine sN (oA (v := (.int _ _)) rfl ?_)
      refine s_ (oSt rfl rfl rfl tk53 ts53 rfl rfl rfl ?_)
      exact s0 ((Wk.trans (Wk.to (el := [(0, .lst 4 (List.map GEnrolment.lv p0)), (3, .int .i64 n2), (4, .ptr 104 0), (8, .lst 4 (List.map GEnrolment.lv p0)), (9, .int .i64 (p0.length : Int)), (10, .int .i64 n2)]) (ml := [(104, .box [.int .i64 x4.Entry.Candidate, .int .i64 x4.Entry.Centre, .int .i64 x4.Entry.Paper, .bool x4.Late])]) (eC rfl (eC rfl (eC rfl (eC rfl (eC rfl (eC rfl eN)))))) (mC rfl mN) rfl (prK rfl)) (Wk.trans (Wk.frzB 104 [.int .i64 x4.Entry.Candidate, .int .i64 x4.Entry.Centre, .int .i64 x4.Entry.Paper, .bool x4.Late] rfl rfl rfl (prN rfl)) (Wk.to (eC rfl (eC rfl (eC rfl (eC rfl (eC rfl (eC rfl eN)))))) mN rfl (prK rfl)))))
    obtain ⟨w6, hv, h⟩ := bindS h
    refine LH.seqJM mixed [] [0, 0, 0, 0, 0, 0, 0, 0, 0, 0, 0, 0, 0, 0, 0, 0, 0, 0, 0] [(0, .lst 4 (List.map GEnrolment.lv p0)), (8, .lst 4 (List.map GEnrolment.lv p0)), (9, .int .i64 (p0.length : Int)), (10, .int .i64 n2), (33, .bool w6)] [] rfl rfl (by kernel_rfl) ?_ ?_
    · refine mN0 (oFaS tf53_0 tk33 ts33 rfl rfl rfl ⟨rfl, ?_⟩)
      refine mN0 (oLdA rfl tk33 ta33 ts33 rfl rfl ⟨rfl, ?_⟩)
      obtain ⟨r7, hr7, hv⟩ := bindS hv
      refine mN0 (oCP (args := [.agg [.int .i64 x4.Entry.Candidate, .int .i64 x4.Entry.Centre, .int .i64 x4.Entry.Paper]]) rfl isF61 rfl (sbR sbN) (entry_validEntry_ok hr7) rfl ⟨rfl, ?_⟩)
      refine mN0 (oNot rfl ⟨rfl, ?_⟩)
      refine mN0 (oM (v := (.bool _)) rfl ⟨rfl, ?_⟩)
      by_cases hb8 : (!r7) = true
      · replace hv := iteT hv hb8
        refine mF rfl rfl hb8 ?_
        refine mF rfl rfl hb8 ?_
        refine mF rfl rfl hb8 ?_
        refine mU rfl rfl ?_
        refine mU rfl rfl ?_
        refine mU rfl rfl ?_
        refine mU rfl rfl ?_
        refine mU rfl rfl ?_
        refine mU rfl rfl ?_
        refine mU rfl rfl ?_
        refine mU rfl rfl ?_
        refine mU rfl rfl ?_
        refine mF rfl rfl hb8 ?_
        refine mN0 (oPkT (congrArg LV.bool hb8) (v := (.bool _)) rfl ⟨rfl, ?_⟩)
        obtain rfl := Option.some.inj hv
        exact m0 (Wk.to (eC rfl (eC rfl (eC rfl (eC rfl (eC rfl eN))))) mN rfl (prK rfl))
      · replace hb8 := bF hb8
        replace hv := iteF hv hb8
        refine mT rfl (congrArg LV.bool hb8) (mN0 (oM (v := (.int _ _)) rfl ⟨rfl, ?_⟩))
        refine mT rfl (congrArg LV.bool hb8) (mN0 (oGt rfl rfl ⟨rfl, ?_⟩))
        refine mT rfl (congrArg LV.bool hb8) (mN0 (oM (v := (.bool _)) rfl ⟨rfl, ?_⟩))
        by_cases hb9 : (decide (n2 > 0)) = true
        · replace hv := iteT hv hb9
          refine mT rfl (congrArg LV.bool hb9) (mN0 (oM (v := (.lst _ _)) rfl ⟨rfl, ?_⟩))
          refine mT rfl (congrArg LV.bool hb9) (mN0 (oM (v := (.int _ _)) rfl ⟨rfl, ?_⟩))
          refine mT rfl (congrArg LV.bool hb9) (mN0 (oSub rfl rfl ⟨rfl, ?_⟩))
          obtain ⟨x10, hx10, hv⟩ := bindS hv
          refine mT rfl (congrArg LV.bool hb9) (mN0 (oIx (f := GEnrolment.lv) te44 tk53 ts53 rfl rfl GEnrolment.ok hx10 rfl ⟨rfl, ?_⟩))
          refine mT rfl (congrArg LV.bool hb9) (mN0 (oLdA rfl tk53 ta53 ts53 rfl rfl ⟨rfl, ?_⟩))
          refine mT rfl (congrArg LV.bool hb9) (mN0 (oFaS tf53_0 tk33 ts33 rfl rfl rfl ⟨rfl, ?_⟩))
          refine mT rfl (congrArg LV.bool hb9) (mN0 (oLdA rfl tk33 ta33 ts33 rfl rfl ⟨rfl, ?_⟩))
          obtain ⟨r11, hr11, hv⟩ := bindS hv
          refine mT rfl (congrArg LV.bool hb9) (mN0 (oCP (args := [.agg [.int .i64 x10.Entry.Candidate, .int .i64 x10.Entry.Centre, .int .i64 x10.Entry.Paper, .bool x10.Late], .agg [.int .i64 x4.Entry.Candidate, .int .i64 x4.Entry.Centre, .int .i64 x4.Entry.Paper]]) rfl isF57 rfl (sbR (sbR sbN)) (entry_compare_ok hr11) rfl ⟨rfl, ?_⟩))
          refine mT rfl (congrArg LV.bool hb9) (mN0 (oGe rfl rfl ⟨rfl, ?_⟩))
          refine mT rfl (congrArg LV.bool hb8) (mN0 (oPkT (congrArg LV.bool hb9) (v := (.bool _)) rfl ⟨rfl, ?_⟩))
          refine mN0 (oPkF (congrArg LV.bool hb8) (v := (.bool _)) rfl ⟨rfl, ?_⟩)
          obtain rfl := Option.some.inj hv
          exact m0 (Wk.to (eC rfl (eC rfl (eC rfl (eC rfl (eC rfl eN))))) mN rfl (prK rfl))
        · replace hb9 := bF hb9
          replace hv := iteF hv hb9
          refine mF rfl rfl hb9 ?_
          refine mF rfl rfl hb9 ?_
          refine mF rfl rfl hb9 ?_
          refine mF rfl rfl hb9 ?_
          refine mF rfl rfl hb9 ?_
          refine mF rfl rfl hb9 ?_
          refine mF rfl rfl hb9 ?_
          refine mF rfl rfl hb9 ?_
          refine mF rfl rfl hb9 ?_
          refine mT rfl (congrArg LV.bool hb8) (mN0 (oPkF (congrArg LV.bool hb9) (v := (.bool _)) rfl ⟨rfl, ?_⟩))
          refine mN0 (oPkF (congrArg LV.bool hb8) (v := (.bool _)) rfl ⟨rfl, ?_⟩)
          obtain rfl := Option.some.inj hv
          exact m0 (Wk.to (eC rfl (eC rfl (eC rfl (eC rfl (eC rfl eN))))) mN rfl (prK rfl))
    clear hv
    refine LH.cond (t := w6) rfl (fun hc12 => ?_) (fun hc12 => ?_)
    · replace h := iteT h hc12
      refine LH.seqT [(2, .bool false)] [] rfl ?_ ?_
      · refine sN (oA (v := (.bool _)) rfl ?_)
        exact s0 (Wk.to (eC rfl eN) mN rfl (prK rfl))
      refine LH.ret ?_
      refine blockR ?_
      refine thenR ?_
      refine roundR ?_
      refine blockR ?_
      refine thenR ?_
      obtain rfl := Option.some.inj h
      exact retE (congrArg Array.toList Try.results46) (lrT rfl (lr0 ⟨memN mN, rfl, prK rfl, Sub.rfl⟩))
    replace h := iteF h hc12
    refine LH.skip ?_
    refine blockN ?_
    refine thenN ?_
    refine LH.wk (Wk.to (el := [(0, .lst 4 (List.map GEnrolment.lv p0)), (8, .lst 4 (List.map GEnrolment.lv p0)), (9, .int .i64 (p0.length : Int)), (10, .int .i64 n2)]) (ml := []) (eC rfl (eC rfl (eC rfl (eC rfl eN)))) mN rfl (prK rfl)) ?_
    refine LH.loneT [(0, .lst 4 (List.map GEnrolment.lv p0)), (8, .lst 4 (List.map GEnrolment.lv p0)), (9, .int .i64 (p0.length : Int)), (10, .int .i64 (i64 (n2 + 1)))] [] rfl ?_ ?_
    · refine sN (oAdd rfl rfl ?_)
      refine sN (oM (v := (.int _ _)) rfl ?_)
      exact s0 (Wk.to (eC rfl (eC rfl (eC rfl (eC rfl eN)))) mN rfl (prK rfl))
    exact roundN (e' := Env.of [(0, .lst 4 (List.map GEnrolment.lv p0)), (8, .lst 4 (List.map GEnrolment.lv p0)), (9, .int .i64 (p0.length : Int)), (10, .int .i64 (i64 (n2 + 1)))]) (m' := Mem.of []) (Wk.to (eC rfl (eC rfl (eC rfl (eC rfl eN)))) mN rfl (prK rfl)) ⟨(i64 (n2 + 1)), hrec1 ▸ h, rfl, rfl⟩
  replace h := iteF h hc3
  refine LH.exit ?_
  refine thenX ?_
  refine roundX ?_
  refine blockH ?_
  refine thenN ?_
  refine LH.wk (Wk.to (el := []) (ml := []) eN mN rfl (prK rfl)) ?_
  refine LH.seqT [(2, .bool true)] [] rfl ?_ ?_
  · refine sN (oA (v := (.bool _)) rfl ?_)
    exact s0 (Wk.to (eC rfl eN) mN rfl (prK rfl))
  refine LH.ret ?_
  obtain rfl := Option.some.inj h
  exact retE (congrArg Array.toList Try.results46) (lrT rfl (lr0 ⟨memN mN, rfl, prK rfl, Sub.rfl⟩))

theorem entry_Apply_ok {F : Nat} {p0 : List GEnrolment} {p1 : GDeadlines} {p2 : GEntryEvent} {r : List GEnrolment × Int} (h : entry_Apply F p0 p1 p2 = some r) : LCall Try.prog 30 [.lst 4 (List.map GEnrolment.lv p0), .agg [.int .i64 p1.Close, .int .i64 p1.Late], .agg [.int .i64 p2.Stamp.Time, .int .i64 p2.Stamp.Source, .int .i64 p2.Stamp.Seq, .int .i64 p2.Kind, .int .i64 p2.Entry.Candidate, .int .i64 p2.Entry.Centre, .int .i64 p2.Entry.Paper, .int .i64 p2.To]] (Mem.of []) (.tup [.lst 4 (List.map GEnrolment.lv r.1), .int .i64 r.2]) (Mem.of []) := by
  unfold entry_Apply at h
  refine bodyT Try.func30 rfl (by rw [Try.ntmps30]; exact Nat.le_of_ble_eq_true rfl) ?_
  refine LH.wk (Wk.to (el := [(0, .lst 4 (List.map GEnrolment.lv p0)), (1, .agg [.int .i64 p1.Close, .int .i64 p1.Late]), (2, .agg [.int .i64 p2.Stamp.Time, .int .i64 p2.Stamp.Source, .int .i64 p2.Stamp.Seq, .int .i64 p2.Kind, .int .i64 p2.Entry.Candidate, .int .i64 p2.Entry.Centre, .int .i64 p2.Entry.Paper, .int .i64 p2.To])]) (ml := []) (eC rfl (eC rfl (eC rfl eN))) mN rfl (prK rfl)) ?_
  refine LH.seqT [(0, .lst 4 (List.map GEnrolment.lv p0)), (4, .sptr [.int .i64 p1.Close, .int .i64 p1.Late]), (5, .sptr [.int .i64 p2.Stamp.Time, .int .i64 p2.Stamp.Source, .int .i64 p2.Stamp.Seq, .int .i64 p2.Kind, .int .i64 p2.Entry.Candidate, .int .i64 p2.Entry.Centre, .int .i64 p2.Entry.Paper, .int .i64 p2.To])] [] rfl ?_ ?_
  · refine sB (oBxR rfl rfl rfl rfl rfl ?_)
    refine sB (oBxR rfl rfl rfl rfl rfl ?_)
    refine sN (oA (v := .nil) rfl ?_)
    refine sN (oA (v := (.int _ _)) rfl ?_)
    exact s0 (Wk.to (eC rfl (eC rfl (eC rfl eN))) mN rfl (prK rfl))
  refine LH.seq ?_
  obtain ⟨w2, hv, h⟩ := bindS h
  refine LH.seqT [(0, .lst 4 (List.map GEnrolment.lv p0)), (4, .sptr [.int .i64 p1.Close, .int .i64 p1.Late]), (5, .sptr [.int .i64 p2.Stamp.Time, .int .i64 p2.Stamp.Source, .int .i64 p2.Stamp.Seq, .int .i64 p2.Kind, .int .i64 p2.Entry.Candidate, .int .i64 p2.Entry.Centre, .int .i64 p2.Entry.Paper, .int .i64 p2.To]), (15, .bool w2)] [] rfl ?_ ?_
  · refine sN (oM (v := (.lst _ _)) rfl ?_)
    obtain ⟨r3, hr3, hv⟩ := bindS hv
    refine sN (oCP (args := [.lst 4 (List.map GEnrolment.lv p0)]) rfl isF46 rfl (sbR sbN) (entry_valid_ok hr3) rfl ?_)
    refine sN (oNot rfl ?_)
    refine sN (oM (v := (.bool _)) rfl ?_)
    by_cases hb4 : (!r3) = true
    · replace hv := iteT hv hb4
      refine sF rfl rfl hb4 ?_
      refine sF rfl rfl hb4 ?_
      refine sF rfl rfl hb4 ?_
      refine sN (oPkT (congrArg LV.bool hb4) (v := (.bool _)) rfl ?_)
      obtain rfl := Option.some.inj hv
      exact s0 (Wk.to (eC rfl (eC rfl (eC rfl (eC rfl eN)))) mN rfl (prK rfl))
    · replace hb4 := bF hb4
      replace hv := iteF hv hb4
      refine sT rfl (congrArg LV.bool hb4) (oLdA rfl tk41 ta41 ts41 rfl rfl ?_)
      obtain ⟨r5, hr5, hv⟩ := bindS hv
      refine sT rfl (congrArg LV.bool hb4) (oCP (args := [.agg [.int .i64 p1.Close, .int .i64 p1.Late]]) rfl isF42 rfl (sbR sbN) (entry_validDeadlines_ok hr5) rfl ?_)
      refine sT rfl (congrArg LV.bool hb4) (oNot rfl ?_)
      refine sN (oPkF (congrArg LV.bool hb4) (v := (.bool _)) rfl ?_)
      obtain rfl := Option.some.inj hv
      exact s0 (Wk.to (eC rfl (eC rfl (eC rfl (eC rfl eN)))) mN rfl (prK rfl))
  clear hv
  refine LH.cond (t := w2) rfl (fun hc6 => ?_) (fun hc6 => ?_)
  · replace h := iteT h hc6
    refine LH.seqT [(6, .nil), (7, .int .i64 1)] [] rfl ?_ ?_
    · refine sN (oA (v := .nil) rfl ?_)
      refine sN (oA (v := (.int _ _)) rfl ?_)
      exact s0 (Wk.to (eC rfl (eC rfl eN)) mN rfl (prK rfl))
    refine LH.ret ?_
    refine thenR ?_
    obtain rfl := Option.some.inj h
    exact retE (congrArg Array.toList Try.results30) (lrT rfl (lrT rfl (lr0 ⟨memN mN, rfl, prK rfl, (Sub.tup (sbL (sbR sbN)))⟩)))
  replace h := iteF h hc6
  refine LH.skip ?_
  refine thenN ?_
  refine LH.wk (Wk.to (el := [(0, .lst 4 (List.map GEnrolment.lv p0)), (4, .sptr [.int .i64 p1.Close, .int .i64 p1.Late]), (5, .sptr [.int .i64 p2.Stamp.Time, .int .i64 p2.Stamp.Source, .int .i64 p2.Stamp.Seq, .int .i64 p2.Kind, .int .i64 p2.Entry.Candidate, .int .i64 p2.Entry.Centre, .int .i64 p2.Entry.Paper, .int .i64 p2.To])]) (ml := []) (eC rfl (eC rfl (eC rfl eN))) mN rfl (prK rfl)) ?_
  obtain ⟨r7, hr7, h⟩ := bindS h
  refine LH.seqT [(6, .lst 4 (List.map GEnrolment.lv r7.1)), (7, .int .i64 r7.2)] [] rfl ?_ ?_
  · refine sN (oM (v := (.lst _ _)) rfl ?_)
    refine sN (oLdA rfl tk41 ta41 ts41 rfl rfl ?_)
    refine sN (oLdA rfl tk35 ta35 ts35 rfl rfl ?_)
    refine sN (oCP (args := [.lst 4 (List.map GEnrolment.lv p0), .agg [.int .i64 p1.Close, .int .i64 p1.Late], .agg [.int .i64 p2.Stamp.Time, .int .i64 p2.Stamp.Source, .int .i64 p2.Stamp.Seq, .int .i64 p2.Kind, .int .i64 p2.Entry.Candidate, .int .i64 p2.Entry.Centre, .int .i64 p2.Entry.Paper, .int .i64 p2.To]]) rfl isF43 rfl (sbR (sbR (sbR sbN))) (entry_step_ok hr7) rfl ?_)
    refine sN (oEx rfl rfl ?_)
    refine sN (oEx rfl rfl ?_)
    refine sN (oA (v := (.lst _ _)) rfl ?_)
    refine sN (oA (v := (.int _ _)) rfl ?_)
    exact s0 (Wk.to (eC rfl (eC rfl eN)) mN rfl (prK rfl))
  refine LH.ret ?_
  obtain rfl := Option.some.inj h
  exact retE (congrArg Array.toList Try.results30) (lrT rfl (lrT rfl (lr0 ⟨memN mN, rfl, prK rfl, (Sub.tup (sbR (sbR sbN)))⟩)))

end Go.Proofs.Ytkkhmngmhckgbaa
