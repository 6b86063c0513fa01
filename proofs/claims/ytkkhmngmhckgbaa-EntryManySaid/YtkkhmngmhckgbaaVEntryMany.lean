/- Walks, printed by program (gen.py): each function computes its plain function. -/
import Derived.Test.YtkkhmngmhckgbaaW3
set_option linter.unusedVariables false
set_option linter.unusedSimpArgs false
set_option maxRecDepth 100000
namespace Go.Proofs.Ytkkhmngmhckgbaa
open Go.L Go.Sh
theorem entry_valid_ok {F : Nat} {p0 : List GEnrolment} {r : Bool} (h : entry_valid F p0 = some r) : LCall Try.prog 46 [.lst 4 (List.map GEnrolment.lv p0)] (Mem.of []) (.bool r) (Mem.of []) := by
  unfold entry_valid at h
  refine bodyT Try.func46 rfl (by rw [Try.ntmps46]; exact Nat.le_of_ble_eq_true rfl) ?_
  refine LH.wk (Wk.to (el := [(0, .lst 4 (List.map GEnrolment.lv p0))]) (ml := []) (eC rfl eN) mN rfl (prK rfl)) ?_
  refine LH.seqT [(0, .lst 4 (List.map GEnrolment.lv p0))] [] rfl ?_ ?_
  · refine sN (oA (v := (.bool _)) rfl ?_)
    exact s0 (Wk.to (eC rfl eN) mN rfl (prK rfl))
  refine LH.seq ?_
  refine LH.seqT [(0, .lst 4 (List.map GEnrolment.lv p0)), (7, .bool (decide ((p0.length : Int) > 300)))] [] rfl ?_ ?_
  · refine sN (oM (v := (.lst _ _)) rfl ?_)
    refine sN (oLnL (f := GEnrolment.lv) te44 rfl ?_)
    refine sN (oGt rfl rfl ?_)
    exact s0 (Wk.to (eC rfl (eC rfl eN)) mN rfl (prK rfl))
  refine LH.cond (t := (decide ((p0.length : Int) > 300))) rfl (fun hc1 => ?_) (fun hc1 => ?_)
  · replace h := iteT h hc1
    refine LH.seqT [(2, .bool false)] [] rfl ?_ ?_
    · refine sN (oA (v := (.bool _)) rfl ?_)
      exact s0 (Wk.to (eC rfl eN) mN rfl (prK rfl))
    refine LH.ret ?_
    refine thenR ?_
    obtain rfl := Option.some.inj h
    exact retE (congrArg Array.toList Try.results46) (lrT rfl (lr0 ⟨memN mN, rfl, prK rfl, Sub.rfl⟩))
  replace h := iteF h hc1
  refine LH.skip ?_
  refine thenN ?_
  refine LH.wk (Wk.to (el := [(0, .lst 4 (List.map GEnrolment.lv p0))]) (ml := []) (eC rfl eN) mN rfl (prK rfl)) ?_
  refine LH.seq ?_
  refine LH.seqT [(0, .lst 4 (List.map GEnrolment.lv p0)), (8, .lst 4 (List.map GEnrolment.lv p0)), (9, .int .i64 (p0.length : Int)), (10, .int .i64 0)] [] rfl ?_ ?_
  · refine sN (oM (v := (.lst _ _)) rfl ?_)
    refine sN (oLnL (f := GEnrolment.lv) te44 rfl ?_)
    refine sN (oM (v := (.int _ _)) rfl ?_)
    exact s0 (Wk.to (eC rfl (eC rfl (eC rfl (eC rfl eN)))) mN rfl (prK rfl))
  refine LH.block ?_
  refine LH.loop (fun n e m => ∃ (n2 : Int), entry_valid_L1 F p0 n n2 = some r ∧ e = Env.of [(0, .lst 4 (List.map GEnrolment.lv p0)), (8, .lst 4 (List.map GEnrolment.lv p0)), (9, .int .i64 (p0.length : Int)), (10, .int .i64 n2)] ∧ m = Mem.of []) F ⟨0, h, rfl, rfl⟩ ?_
  clear h
  rintro n e m ⟨n2, h, rfl, rfl⟩
  rcases n with _ | n
  · cases (show Option.none = some _ from h)
  obtain ⟨rec1, hrec1⟩ : ∃ f, f = entry_valid_L1 F p0 n := ⟨_, rfl⟩
  replace h : entry_valid_L1_B F p0 rec1 n2 = some r := hrec1 ▸ h
  unfold entry_valid_L1_B at h
  refine LH.seqT [(0, .lst 4 (List.map GEnrolment.lv p0)), (8, .lst 4 (List.map GEnrolment.lv p0)), (9, .int .i64 (p0.length : Int)), (10, .int .i64 n2), (11, .bool (decide (n2 < (p0.length : Int))))] [] rfl ?_ ?_
  · refine sN (oLt rfl rfl ?_)
    exact s0 (Wk.to (eC rfl (eC rfl (eC rfl (eC rfl (eC rfl eN))))) mN rfl (prK rfl))
  refine LH.seq ?_
  refine LH.cond (t := (decide (n2 < (p0.length : Int)))) rfl (fun hc3 => ?_) (fun hc3 => ?_)
  · replace h := iteT h hc3
    refine LH.skip ?_
    refine thenN ?_
    refine LH.wk (Wk.to (el := [(0, .lst 4 (List.map GEnrolment.lv p0)), (8, .lst 4 (List.map GEnrolment.lv p0)), (9, .int .i64 (p0.length : Int)), (10, .int .i64 n2)]) (ml := []) (eC rfl (eC rfl (eC rfl (eC rfl eN)))) mN rfl (prK rfl)) ?_
    refine LH.seq ?_
    refine LH.block ?_
    obtain ⟨x4, hx4, h⟩ := bindS h
    refine LH.seqT [(0, .lst 4 (List.map GEnrolment.lv p0)), (3, .int .i64 n2), (4, .sptr [.int .i64 x4.Entry.Candidate, .int .i64 x4.Entry.Centre, .int .i64 x4.Entry.Paper, .bool x4.Late]), (8, .lst 4 (List.map GEnrolment.lv p0)), (9, .int .i64 (p0.length : Int)), (10, .int .i64 n2)] [] rfl ?_ ?_
    · refine sN (oM (v := (.int _ _)) rfl ?_)
      refine sN (oIx (f := GEnrolment.lv) te44 tk53 ts53 rfl rfl GEnrolment.ok hx4 rfl ?_)
      refine sN (oLdA rfl tk53 ta53 ts53 rfl rfl ?_)
      refine sN (oAl (id := 104) rfl tz53 rfl rfl ?_)
      refine sN (oA (v := (.int _ _)) rfl ?_)
      refine s_ (oSt rfl rfl rfl tk53 ts53 rfl rfl rfl ?_)
      exact s0 ((Wk.trans (Wk.to (el := [(0, .lst 4 (List.map GEnrolment.lv p0)), (3, .int .i64 n2), (4, .ptr 104 0), (8, .lst 4 (List.map GEnrolment.lv p0)), (9, .int .i64 (p0.length : Int)), (10, .int .i64 n2)]) (ml := [(104, .box [.int .i64 x4.Entry.Candidate, .int .i64 x4.Entry.Centre, .int .i64 x4.Entry.Paper, .bool x4.Late])]) (eC rfl (eC rfl (eC rfl (eC rfl (eC rfl (eC rfl eN)))))) (mC rfl mN) rfl (prK rfl)) (Wk.trans (Wk.frzB 104 [.int .i64 x4.Entry.Candidate, .int .i64 x4.Entry.Centre, .int .i64 x4.Entry.Paper, .bool x4.Late] rfl rfl rfl (prN rfl)) (Wk.to (eC rfl (eC rfl (eC rfl (eC rfl (eC rfl (eC rfl eN)))))) mN rfl (prK rfl)))))
    obtain ⟨w6, hv, h⟩ := bindS h
    refine LH.seqJM mixed [] [0, 0, 0, 0, 0, 0, 0, 0, 0, 0, 0, 0, 0, 0, 0, 0, 0, 0, 0] [(0, .lst 4 (List.map GEnrolment.lv p0)), (8, .lst 4 (List.map GEnrolment.lv p0)), (9, .int .i64 (p0.length : Int)), (10, .int .i64 n2), (33, .bool w6)] [] rfl rfl (by kernel_rfl) ?_ ?_
    · refine mN0 (oFaS tf53_0 tk33 ts33 rfl rfl rfl ⟨rfl, ?_⟩)
      refine mN0 (oLdA rfl tk33 ta33 ts33 rfl rfl ⟨rfl, ?_⟩)
      obtain ⟨r7, hr7, hv⟩ := bindS hv
      refine mN0 (oCP (args := [.agg [.int .i64 x4.Entry.Candidate, .int .i64 x4.Entry.Centre, .int .i64 x4.Entry.Paper]]) rfl isF61 rfl (sbR sbN) (entry_validEntry_ok hr7) rfl ⟨rfl, ?_⟩)
      refine mN0 (oNot rfl ⟨rfl, ?_⟩)
      refine mN0 (oM (v := (.bool _)) rfl ⟨rfl, ?_⟩)
      by_cases hb8 : (!r7) = true
      · replace hv := iteT hv hb8
        refine mF rfl rfl hb8 ?_
        refine mF rfl rfl hb8 ?_
        refine mF rfl rfl hb8 ?_
        refine mU rfl rfl ?_
        refine mU rfl rfl ?_
        refine mU rfl rfl ?_
        refine mU rfl rfl ?_
        refine mU rfl rfl ?_
        refine mU rfl rfl ?_
        refine mU rfl rfl ?_
        refine mU rfl rfl ?_
        refine mU rfl rfl ?_
        refine mF rfl rfl hb8 ?_
        refine mN0 (oPkT (congrArg LV.bool hb8) (v := (.bool _)) rfl ⟨rfl, ?_⟩)
        obtain rfl := Option.some.inj hv
        exact m0 (Wk.to (eC rfl (eC rfl (eC rfl (eC rfl (eC rfl eN))))) mN rfl (prK rfl))
      · replace hb8 := bF hb8
        replace hv := iteF hv hb8
        refine mT rfl (congrArg LV.bool hb8) (mN0 (oM (v := (.int _ _)) rfl ⟨rfl, ?_⟩))
        refine mT rfl (congrArg LV.bool hb8) (mN0 (oGt rfl rfl ⟨rfl, ?_⟩))
        refine mT rfl (congrArg LV.bool hb8) (mN0 (oM (v := (.bool _)) rfl ⟨rfl, ?_⟩))
        by_cases hb9 : (decide (n2 > 0)) = true
        · replace hv := iteT hv hb9
          refine mT rfl (congrArg LV.bool hb9) (mN0 (oM (v := (.lst _ _)) rfl ⟨rfl, ?_⟩))
          refine mT rfl (congrArg LV.bool hb9) (mN0 (oM (v := (.int _ _)) rfl ⟨rfl, ?_⟩))
          refine mT rfl (congrArg LV.bool hb9) (mN0 (oSub rfl rfl ⟨rfl, ?_⟩))
          obtain ⟨x10, hx10, hv⟩ := bindS hv
          refine mT rfl (congrArg LV.bool hb9) (mN0 (oIx (f := GEnrolment.lv) te44 tk53 ts53 rfl rfl GEnrolment.ok hx10 rfl ⟨rfl, ?_⟩))
          refine mT rfl (congrArg LV.bool hb9) (mN0 (oLdA rfl tk53 ta53 ts53 rfl rfl ⟨rfl, ?_⟩))
          refine mT rfl (congrArg LV.bool hb9) (mN0 (oFaS tf53_0 tk33 ts33 rfl rfl rfl ⟨rfl, ?_⟩))
          refine mT rfl (congrArg LV.bool hb9) (mN0 (oLdA rfl tk33 ta33 ts33 rfl rfl ⟨rfl, ?_⟩))
          obtain ⟨r11, hr11, hv⟩ := bindS hv
          refine mT rfl (congrArg LV.bool hb9) (mN0 (oCP (args := [.agg [.int .i64 x10.Entry.Candidate, .int .i64 x10.Entry.Centre, .int .i64 x10.Entry.Paper, .bool x10.Late], .agg [.int .i64 x4.Entry.Candidate, .int .i64 x4.Entry.Centre, .int .i64 x4.Entry.Paper]]) rfl isF57 rfl (sbR (sbR sbN)) (entry_compare_ok hr11) rfl ⟨rfl, ?_⟩))
          refine mT rfl (congrArg LV.bool hb9) (mN0 (oGe rfl rfl ⟨rfl, ?_⟩))
          refine mT rfl (congrArg LV.bool hb8) (mN0 (oPkT (congrArg LV.bool hb9) (v := (.bool _)) rfl ⟨rfl, ?_⟩))
          refine mN0 (oPkF (congrArg LV.bool hb8) (v := (.bool _)) rfl ⟨rfl, ?_⟩)
          obtain rfl := Option.some.inj hv
          exact m0 (Wk.to (eC rfl (eC rfl (eC rfl (eC rfl (eC rfl eN))))) mN rfl (prK rfl))
        · replace hb9 := bF hb9
          replace hv := iteF hv hb9
          refine mF rfl rfl hb9 ?_
          refine mF rfl rfl hb9 ?_
          refine mF rfl rfl hb9 ?_
          refine mF rfl rfl hb9 ?_
          refine mF rfl rfl hb9 ?_
          refine mF rfl rfl hb9 ?_
          refine mF rfl rfl hb9 ?_
          refine mF rfl rfl hb9 ?_
          refine mF rfl rfl hb9 ?_
          refine mT rfl (congrArg LV.bool hb8) (mN0 (oPkF (congrArg LV.bool hb9) (v := (.bool _)) rfl ⟨rfl, ?_⟩))
          refine mN0 (oPkF (congrArg LV.bool hb8) (v := (.bool _)) rfl ⟨rfl, ?_⟩)
          obtain rfl := Option.some.inj hv
          exact m0 (Wk.to (eC rfl (eC rfl (eC rfl (eC rfl (eC rfl eN))))) mN rfl (prK rfl))
    clear hv
    refine LH.cond (t := w6) rfl (fun hc12 => ?_) (fun hc12 => ?_)
    · replace h := iteT h hc12
      refine LH.seqT [(2, .bool false)] [] rfl ?_ ?_
      · refine sN (oA (v := (.bool _)) rfl ?_)
        exact s0 (Wk.to (eC rfl eN) mN rfl (prK rfl))
      refine LH.ret ?_
      refine blockR ?_
      refine thenR ?_
      refine roundR ?_
      refine blockR ?_
      refine thenR ?_
      obtain rfl := Option.some.inj h
      exact retE (congrArg Array.toList Try.results46) (lrT rfl (lr0 ⟨memN mN, rfl, prK rfl, Sub.rfl⟩))
    replace h := iteF h hc12
    refine LH.skip ?_
    refine blockN ?_
    refine thenN ?_
    refine LH.wk (Wk.to (el := [(0, .lst 4 (List.map GEnrolment.lv p0)), (8, .lst 4 (List.map GEnrolment.lv p0)), (9, .int .i64 (p0.length : Int)), (10, .int .i64 n2)]) (ml := []) (eC rfl (eC rfl (eC rfl (eC rfl eN)))) mN rfl (prK rfl)) ?_
    refine LH.loneT [(0, .lst 4 (List.map GEnrolment.lv p0)), (8, .lst 4 (List.map GEnrolment.lv p0)), (9, .int .i64 (p0.length : Int)), (10, .int .i64 (i64 (n2 + 1)))] [] rfl ?_ ?_
    · refine sN (oAdd rfl rfl ?_)
      refine sN (oM (v := (.int _ _)) rfl ?_)
      exact s0 (Wk.to (eC rfl (eC rfl (eC rfl (eC rfl eN)))) mN rfl (prK rfl))
    exact roundN (e' := Env.of [(0, .lst 4 (List.map GEnrolment.lv p0)), (8, .lst 4 (List.map GEnrolment.lv p0)), (9, .int .i64 (p0.length : Int)), (10, .int .i64 (i64 (n2 + 1)))]) (m' := Mem.of []) (Wk.to (eC rfl (eC rfl (eC rfl (eC rfl eN)))) mN rfl (prK rfl)) ⟨(i64 (n2 + 1)), hrec1 ▸ h, rfl, rfl⟩
  replace h := iteF h hc3
  refine LH.exit ?_
  refine thenX ?_
  refine roundX ?_
  refine blockH ?_
  refine thenN ?_
  refine LH.wk (Wk.to (el := []) (ml := []) eN mN rfl (prK rfl)) ?_
  refine LH.seqT [(2, .bool true)] [] rfl ?_ ?_
  · refine sN (oA (v := (.bool _)) rfl ?_)
    exact s0 (Wk.to (eC rfl eN) mN rfl (prK rfl))
  refine LH.ret ?_
  obtain rfl := Option.some.inj h
  exact retE (congrArg Array.toList Try.results46) (lrT rfl (lr0 ⟨memN mN, rfl, prK rfl, Sub.rfl⟩))

theorem entry_Apply_ok {F : Nat} {p0 : List GEnrolment} {p1 : GDeadlines} {p2 : GEntryEvent} {r : List GEnrolment × Int} (h : entry_Apply F p0 p1 p2 = some r) : LCall Try.prog 30 [.lst 4 (List.map GEnrolment.lv p0), .agg [.int .i64 p1.Close, .int .i64 p1.Late], .agg [.int .i64 p2.Stamp.Time, .int .i64 p2.Stamp.Source, .int .i64 p2.Stamp.Seq, .int .i64 p2.Kind, .int .i64 p2.Entry.Candidate, .int .i64 p2.Entry.Centre, .int .i64 p2.Entry.Paper, .int .i64 p2.To]] (Mem.of []) (.tup [.lst 4 (List.map GEnrolment.lv r.1), .int .i64 r.2]) (Mem.of []) := by
  unfold entry_Apply at h
  refine bodyT Try.func30 rfl (by rw [Try.ntmps30]; exact Nat.le_of_ble_eq_true rfl) ?_
  refine LH.wk (Wk.to (el := [(0, .lst 4 (List.map GEnrolment.lv p0)), (1, .agg [.int .i64 p1.Close, .int .i64 p1.Late]), (2, .agg [.int .i64 p2.Stamp.Time, .int .i64 p2.Stamp.Source, .int .i64 p2.Stamp.Seq, .int .i64 p2.Kind, .int .i64 p2.Entry.Candidate, .int .i64 p2.Entry.Centre, .int .i64 p2.Entry.Paper, .int .i64 p2.To])]) (ml := []) (eC rfl (eC rfl (eC rfl eN))) mN rfl (prK rfl)) ?_
  refine LH.seqT [(0, .lst 4 (List.map GEnrolment.lv p0)), (4, .sptr [.int .i64 p1.Close, .int .i64 p1.Late]), (5, .sptr [.int .i64 p2.Stamp.Time, .int .i64 p2.Stamp.Source, .int .i64 p2.Stamp.Seq, .int .i64 p2.Kind, .int .i64 p2.Entry.Candidate, .int .i64 p2.Entry.Centre, .int .i64 p2.Entry.Paper, .int .i64 p2.To])] [] rfl ?_ ?_
  · refine sB (oBxR rfl rfl rfl rfl rfl ?_)
    refine sB (oBxR rfl rfl rfl rfl rfl ?_)
    refine sN (oA (v := .nil) rfl ?_)
    refine sN (oA (v := (.int _ _)) rfl ?_)
    exact s0 (Wk.to (eC rfl (eC rfl (eC rfl eN))) mN rfl (prK rfl))
  refine LH.seq ?_
  obtain ⟨w2, hv, h⟩ := bindS h
  refine LH.seqT [(0, .lst 4 (List.map GEnrolment.lv p0)), (4, .sptr [.int .i64 p1.Close, .int .i64 p1.Late]), (5, .sptr [.int .i64 p2.Stamp.Time, .int .i64 p2.Stamp.Source, .int .i64 p2.Stamp.Seq, .int .i64 p2.Kind, .int .i64 p2.Entry.Candidate, .int .i64 p2.Entry.Centre, .int .i64 p2.Entry.Paper, .int .i64 p2.To]), (15, .bool w2)] [] rfl ?_ ?_
  · refine sN (oM (v := (.lst _ _)) rfl ?_)
    obtain ⟨r3, hr3, hv⟩ := bindS hv
    refine sN (oCP (args := [.lst 4 (List.map GEnrolment.lv p0)]) rfl isF46 rfl (sbR sbN) (entry_valid_ok hr3) rfl ?_)
    refine sN (oNot rfl ?_)
    refine sN (oM (v := (.bool _)) rfl ?_)
    by_cases hb4 : (!r3) = true
    · replace hv := iteT hv hb4
      refine sF rfl rfl hb4 ?_
      refine sF rfl rfl hb4 ?_
      refine sF rfl rfl hb4 ?_
      refine sN (oPkT (congrArg LV.bool hb4) (v := (.bool _)) rfl ?_)
      obtain rfl := Option.some.inj hv
      exact s0 (Wk.to (eC rfl (eC rfl (eC rfl (eC rfl eN)))) mN rfl (prK rfl))
    · replace hb4 := bF hb4
      replace hv := iteF hv hb4
      refine sT rfl (congrArg LV.bool hb4) (oLdA rfl tk41 ta41 ts41 rfl rfl ?_)
      obtain ⟨r5, hr5, hv⟩ := bindS hv
      refine sT rfl (congrArg LV.bool hb4) (oCP (args := [.agg [.int .i64 p1.Close, .int .i64 p1.Late]]) rfl isF42 rfl (sbR sbN) (entry_validDeadlines_ok hr5) rfl ?_)
      refine sT rfl (congrArg LV.bool hb4) (oNot rfl ?_)
      refine sN (oPkF (congrArg LV.bool hb4) (v := (.bool _)) rfl ?_)
      obtain rfl := Option.some.inj hv
      exact s0 (Wk.to (eC rfl (eC rfl (eC rfl (eC rfl eN)))) mN rfl (prK rfl))
  clear hv
  refine LH.cond (t := w2) rfl (fun hc6 => ?_) (fun hc6 => ?_)
  · replace h := iteT h hc6
    refine LH.seqT [(6, .nil), (7, .int .i64 1)] [] rfl ?_ ?_
    · refine sN (oA (v := .nil) rfl ?_)
      refine sN (oA (v := (.int _ _)) rfl ?_)
      exact s0 (Wk.to (eC rfl (eC rfl eN)) mN rfl (prK rfl))
    refine LH.ret ?_
    refine thenR ?_
    obtain rfl := Option.some.inj h
    exact retE (congrArg Array.toList Try.results30) (lrT rfl (lrT rfl (lr0 ⟨memN mN, rfl, prK rfl, (Sub.tup (sbL (sbR sbN)))⟩)))
  replace h := iteF h hc6
  refine LH.skip ?_
  refine thenN ?_
  refine LH.wk (Wk.to (el := [(0, .lst 4 (List.map GEnrolment.lv p0)), (4, .sptr [.int .i64 p1.Close, .int .i64 p1.Late]), (5, .sptr [.int .i64 p2.Stamp.Time, .int .i64 p2.Stamp.Source, .int .i64 p2.Stamp.Seq, .int .i64 p2.Kind, .int .i64 p2.Entry.Candidate, .int .i64 p2.Entry.Centre, .int .i64 p2.Entry.Paper, .int .i64 p2.To])]) (ml := []) (eC rfl (eC rfl (eC rfl eN))) mN rfl (prK rfl)) ?_
  obtain ⟨r7, hr7, h⟩ := bindS h
  refine LH.seqT [(6, .lst 4 (List.map GEnrolment.lv r7.1)), (7, .int .i64 r7.2)] [] rfl ?_ ?_
  · refine sN (oM (v := (.lst _ _)) rfl ?_)
    refine sN (oLdA rfl tk41 ta41 ts41 rfl rfl ?_)
    refine sN (oLdA rfl tk35 ta35 ts35 rfl rfl ?_)
    refine sN (oCP (args := [.lst 4 (List.map GEnrolment.lv p0), .agg [.int .i64 p1.Close, .int .i64 p1.Late], .agg [.int .i64 p2.Stamp.Time, .int .i64 p2.Stamp.Source, .int .i64 p2.Stamp.Seq, .int .i64 p2.Kind, .int .i64 p2.Entry.Candidate, .int .i64 p2.Entry.Centre, .int .i64 p2.Entry.Paper, .int .i64 p2.To]]) rfl isF43 rfl (sbR (sbR (sbR sbN))) (entry_step_ok hr7) rfl ?_)
    refine sN (oEx rfl rfl ?_)
    refine sN (oEx rfl rfl ?_)
    refine sN (oA (v := (.lst _ _)) rfl ?_)
    refine sN (oA (v := (.int _ _)) rfl ?_)
    exact s0 (Wk.to (eC rfl (eC rfl eN)) mN rfl (prK rfl))
  refine LH.ret ?_
  obtain rfl := Option.some.inj h
  exact retE (congrArg Array.toList Try.results30) (lrT rfl (lrT rfl (lr0 ⟨memN mN, rfl, prK rfl, (Sub.tup (sbR (sbR sbN)))⟩)))

theorem law13_EntryMany_ok {F : Nat} {p0 : Int} {r : Bool} (h : law13_EntryMany F p0 = some r) : LCall Try.prog 10 [.int .i64 p0] (Mem.of []) (.bool r) (Mem.of []) := by
  unfold law13_EntryMany at h
  refine bodyT Try.func10 rfl (by rw [Try.ntmps10]; exact Nat.le_of_ble_eq_true rfl) ?_
  refine LH.wk (Wk.to (el := [(0, .int .i64 p0)]) (ml := []) (eC rfl eN) mN rfl (prK rfl)) ?_
  refine LH.seqT [(0, .int .i64 p0)] [] rfl ?_ ?_
  · refine sN (oA (v := (.bool _)) rfl ?_)
    exact s0 (Wk.to (eC rfl eN) mN rfl (prK rfl))
  obtain ⟨r1, hr1, h⟩ := bindS h
  refine LH.seqT [(0, .int .i64 (i64 (297 + r1)))] [] rfl ?_ ?_
  · refine sN (oM (v := (.int _ _)) rfl ?_)
    refine sN (oCP (args := [.int .i64 p0, .int .i64 6]) rfl isF26 rfl (sbR (sbR sbN)) (make_Cut_ok hr1) rfl ?_)
    refine sN (oAdd rfl rfl ?_)
    refine sN (oA (v := (.int _ _)) rfl ?_)
    exact s0 (Wk.to (eC rfl eN) mN rfl (prK rfl))
  refine LH.seqT [(0, .int .i64 (i64 (297 + r1))), (3, .sptr [.int .i64 1, .int .i64 2])] [] rfl ?_ ?_
  · refine sN (oBd (vs := [(0, .int .i64 1), (1, .int .i64 2)]) tu41 tz41 rfl (lf tf41_0 ts3 tk3 rfl rfl rfl (lf tf41_1 ts3 tk3 rfl rfl rfl lf0)) ?_)
    refine sN (oAl (id := 103) rfl tz41 rfl rfl ?_)
    refine s_ (oSt rfl rfl rfl tk41 ts41 rfl rfl rfl ?_)
    exact s0 ((Wk.trans (Wk.to (el := [(0, .int .i64 (i64 (297 + r1))), (3, .ptr 103 0)]) (ml := [(103, .box [.int .i64 1, .int .i64 2])]) (eC rfl (eC rfl eN)) (mC rfl mN) rfl (prK rfl)) (Wk.trans (Wk.frzB 103 [.int .i64 1, .int .i64 2] rfl rfl rfl (prN rfl)) (Wk.to (eC rfl (eC rfl eN)) mN rfl (prK rfl)))))
  refine LH.seqT [(0, .int .i64 (i64 (297 + r1))), (3, .sptr [.int .i64 1, .int .i64 2]), (4, .nil)] [] rfl ?_ ?_
  · refine sN (oA (v := .nil) rfl ?_)
    exact s0 (Wk.to (eC rfl (eC rfl (eC rfl eN))) mN rfl (prK rfl))
  refine LH.seqT [(0, .int .i64 (i64 (297 + r1))), (3, .sptr [.int .i64 1, .int .i64 2]), (4, .nil), (5, .nil)] [] rfl ?_ ?_
  · refine sN (oA (v := .nil) rfl ?_)
    exact s0 (Wk.to (eC rfl (eC rfl (eC rfl (eC rfl eN)))) mN rfl (prK rfl))
  refine LH.seq ?_
  refine LH.seqT [(0, .int .i64 (i64 (297 + r1))), (3, .sptr [.int .i64 1, .int .i64 2]), (4, .nil), (5, .nil), (6, .int .i64 0)] [] rfl ?_ ?_
  · refine sN (oA (v := (.int _ _)) rfl ?_)
    exact s0 (Wk.to (eC rfl (eC rfl (eC rfl (eC rfl (eC rfl eN))))) mN rfl (prK rfl))
  refine LH.block ?_
  refine LH.wk ((Wk.trans (Wk.to (el := [(0, .int .i64 (i64 (297 + r1))), (3, .sptr [.int .i64 1, .int .i64 2]), (4, .nil), (5, .nil), (6, .int .i64 0)]) (ml := []) (eC rfl (eC rfl (eC rfl (eC rfl (eC rfl eN))))) mN rfl (prK rfl)) (Wk.trans (Wk.to (el := [(0, .int .i64 (i64 (297 + r1))), (3, .sptr [.int .i64 1, .int .i64 2]), (4, .nil), (5, .nil), (6, .int .i64 0)]) (ml := []) (eC rfl (eC rfl (eC rfl (eC rfl (eC rfl eN))))) mN rfl (prK rfl)) (Wk.trans (Wk.ownL (el' := [(0, .int .i64 (i64 (297 + r1))), (3, .sptr [.int .i64 1, .int .i64 2]), (4, .arr 130 (List.length ([] : List GEntryEvent))), (5, .nil), (6, .int .i64 0)]) 130 35 8 rfl rfl (wK (wK (wO (wK (wK wN)))))) (Wk.trans (Wk.to (el := [(0, .int .i64 (i64 (297 + r1))), (3, .sptr [.int .i64 1, .int .i64 2]), (4, .arr 130 (List.length ([] : List GEntryEvent))), (5, .nil), (6, .int .i64 0)]) (ml := [(130, .arr 35 8 (List.map GEntryEvent.lv ([] : List GEntryEvent)))]) (eC rfl (eC rfl (eC rfl (eC rfl (eC rfl eN))))) (mC rfl mN) rfl (prK rfl)) (Wk.trans (Wk.ownL (el' := [(0, .int .i64 (i64 (297 + r1))), (3, .sptr [.int .i64 1, .int .i64 2]), (4, .arr 130 (List.length ([] : List GEntryEvent))), (5, .arr 135 (List.length ([] : List GEnrolment))), (6, .int .i64 0)]) 135 53 4 rfl rfl (wK (wK (wK (wO (wK wN)))))) (Wk.to (el := [(0, .int .i64 (i64 (297 + r1))), (3, .sptr [.int .i64 1, .int .i64 2]), (4, .arr 130 (List.length ([] : List GEntryEvent))), (5, .arr 135 (List.length ([] : List GEnrolment))), (6, .int .i64 0)]) (ml := [(130, .arr 35 8 (List.map GEntryEvent.lv ([] : List GEntryEvent))), (135, .arr 53 4 (List.map GEnrolment.lv ([] : List GEnrolment)))]) (eC rfl (eC rfl (eC rfl (eC rfl (eC rfl eN))))) (mC rfl (mC rfl mN)) rfl (prK rfl)))))))) ?_
  refine LH.loop (fun n e m => ∃ (n2 : Int) (l3 : List GEntryEvent) (l4 : List GEnrolment), law13_EntryMany_L1 F r1 n n2 l3 l4 = some r ∧ e = Env.of [(0, .int .i64 (i64 (297 + r1))), (3, .sptr [.int .i64 1, .int .i64 2]), (4, .arr 130 (List.length l3)), (5, .arr 135 (List.length l4)), (6, .int .i64 n2)] ∧ m = Mem.of [(130, .arr 35 8 (List.map GEntryEvent.lv l3)), (135, .arr 53 4 (List.map GEnrolment.lv l4))]) F ⟨0, ([] : List GEntryEvent), ([] : List GEnrolment), h, rfl, rfl⟩ ?_
  clear h
  rintro n e m ⟨n2, l3, l4, h, rfl, rfl⟩
  rcases n with _ | n
  · cases (show Option.none = some _ from h)
  obtain ⟨rec1, hrec1⟩ : ∃ f, f = law13_EntryMany_L1 F r1 n := ⟨_, rfl⟩
  replace h : law13_EntryMany_L1_B F r1 rec1 n2 l3 l4 = some r := hrec1 ▸ h
  unfold law13_EntryMany_L1_B at h
  refine LH.seq ?_
  refine LH.seqT [(0, .int .i64 (i64 (297 + r1))), (3, .sptr [.int .i64 1, .int .i64 2]), (4, .arr 130 (List.length l3)), (5, .arr 135 (List.length l4)), (6, .int .i64 n2), (19, .bool (decide (n2 < (i64 (297 + r1)))))] [(130, .arr 35 8 (List.map GEntryEvent.lv l3)), (135, .arr 53 4 (List.map GEnrolment.lv l4))] rfl ?_ ?_
  · refine sN (oM (v := (.int _ _)) rfl ?_)
    refine sN (oM (v := (.int _ _)) rfl ?_)
    refine sN (oLt rfl rfl ?_)
    exact s0 (Wk.to (eC rfl (eC rfl (eC rfl (eC rfl (eC rfl (eC rfl eN)))))) (mC rfl (mC rfl mN)) rfl (prK rfl))
  refine LH.cond (t := (decide (n2 < (i64 (297 + r1))))) rfl (fun hc5 => ?_) (fun hc5 => ?_)
  · replace h := iteT h hc5
    refine LH.skip ?_
    refine thenN ?_
    refine LH.wk (Wk.to (el := [(0, .int .i64 (i64 (297 + r1))), (3, .sptr [.int .i64 1, .int .i64 2]), (4, .arr 130 (List.length l3)), (5, .arr 135 (List.length l4)), (6, .int .i64 n2)]) (ml := [(130, .arr 35 8 (List.map GEntryEvent.lv l3)), (135, .arr 53 4 (List.map GEnrolment.lv l4))]) (eC rfl (eC rfl (eC rfl (eC rfl (eC rfl eN))))) (mC rfl (mC rfl mN)) rfl (prK rfl)) ?_
    refine LH.seq ?_
    refine LH.block ?_
    refine LH.seqT [(0, .int .i64 (i64 (297 + r1))), (3, .sptr [.int .i64 1, .int .i64 2]), (4, .arr 130 (List.length l3)), (5, .arr 135 (List.length l4)), (6, .int .i64 n2), (7, .sptr [.int .i64 n2, .int .i64 1, .int .i64 0])] [(130, .arr 35 8 (List.map GEntryEvent.lv l3)), (135, .arr 53 4 (List.map GEnrolment.lv l4))] rfl ?_ ?_
    · refine sN (oM (v := (.int _ _)) rfl ?_)
      refine sN (oBd (vs := [(0, .int .i64 n2), (1, .int .i64 1)]) tu33 tz33 rfl (lf tf33_0 ts3 tk3 rfl rfl rfl (lf tf33_1 ts3 tk3 rfl rfl rfl lf0)) ?_)
      refine sN (oAl (id := 107) rfl tz33 rfl rfl ?_)
      refine s_ (oSt rfl rfl rfl tk33 ts33 rfl rfl rfl ?_)
      exact s0 ((Wk.trans (Wk.to (el := [(0, .int .i64 (i64 (297 + r1))), (3, .sptr [.int .i64 1, .int .i64 2]), (4, .arr 130 (List.length l3)), (5, .arr 135 (List.length l4)), (6, .int .i64 n2), (7, .ptr 107 0)]) (ml := [(107, .box [.int .i64 n2, .int .i64 1, .int .i64 0]), (130, .arr 35 8 (List.map GEntryEvent.lv l3)), (135, .arr 53 4 (List.map GEnrolment.lv l4))]) (eC rfl (eC rfl (eC rfl (eC rfl (eC rfl (eC rfl eN)))))) (mC rfl (mC rfl (mC rfl mN))) rfl (prK rfl)) (Wk.trans (Wk.frzB 107 [.int .i64 n2, .int .i64 1, .int .i64 0] rfl rfl rfl (prN rfl)) (Wk.to (eC rfl (eC rfl (eC rfl (eC rfl (eC rfl (eC rfl eN)))))) (mC rfl (mC rfl mN)) rfl (prK rfl)))))
    obtain ⟨v6, hv6, h⟩ := bindS h
    refine LH.seqT [(0, .int .i64 (i64 (297 + r1))), (3, .sptr [.int .i64 1, .int .i64 2]), (4, .arr 130 (List.length v6)), (5, .arr 135 (List.length l4)), (6, .int .i64 n2), (7, .sptr [.int .i64 n2, .int .i64 1, .int .i64 0])] [(130, .arr 35 8 (List.map GEntryEvent.lv v6)), (135, .arr 53 4 (List.map GEnrolment.lv l4))] rfl ?_ ?_
    · refine sN (oM (v := (.arr _ _)) rfl ?_)
      refine sN (oM (v := (.int _ _)) rfl ?_)
      refine sN (oBd (vs := [(1, .int .i64 1), (2, .int .i64 n2)]) tu31 tz31 rfl (lf tf31_1 ts3 tk3 rfl rfl rfl (lf tf31_2 ts3 tk3 rfl rfl rfl lf0)) ?_)
      refine sN (oLdA rfl tk33 ta33 ts33 rfl rfl ?_)
      refine sN (oBd (vs := [(0, .agg [.int .i64 0, .int .i64 1, .int .i64 n2]), (1, .int .i64 1), (2, .agg [.int .i64 n2, .int .i64 1, .int .i64 0])]) tu35 tz35 rfl (lf tf35_0 ts31 tk31 rfl rfl rfl (lf tf35_1 ts3 tk3 rfl rfl rfl (lf tf35_2 ts33 tk33 rfl rfl rfl lf0))) ?_)
      refine sN (oBS (f := GEntryEvent.lv) (ys := [(GEntryEvent.mk (GStamp.mk 0 1 n2) 1 (GEntry.mk n2 1 0) 0)]) te25 tr35 ts35 rfl rfl rfl GEntryEvent.ok ?_)
      refine sN (oAp (f := GEntryEvent.lv) te25 tr35 ts35 rfl rfl (prN rfl) rfl hv6 ?_)
      refine sN (oA (v := (.arr _ _)) rfl ?_)
      exact s0 (Wk.to (eC rfl (eC rfl (eC rfl (eC rfl (eC rfl (eC rfl eN)))))) (mC rfl (mC rfl mN)) rfl (prK rfl))
    obtain ⟨v7, hv7, h⟩ := bindS h
    refine LH.loneT [(0, .int .i64 (i64 (297 + r1))), (3, .sptr [.int .i64 1, .int .i64 2]), (4, .arr 130 (List.length v6)), (5, .arr 135 (List.length v7)), (6, .int .i64 n2)] [(130, .arr 35 8 (List.map GEntryEvent.lv v6)), (135, .arr 53 4 (List.map GEnrolment.lv v7))] rfl ?_ ?_
    · refine sN (oM (v := (.arr _ _)) rfl ?_)
      refine sN (oLdA rfl tk33 ta33 ts33 rfl rfl ?_)
      refine sN (oBd (vs := [(0, .agg [.int .i64 n2, .int .i64 1, .int .i64 0])]) tu53 tz53 rfl (lf tf53_0 ts33 tk33 rfl rfl rfl lf0) ?_)
      refine sN (oBS (f := GEnrolment.lv) (ys := [(GEnrolment.mk (GEntry.mk n2 1 0) false)]) te44 tr53 ts53 rfl rfl rfl GEnrolment.ok ?_)
      refine sN (oAp (f := GEnrolment.lv) te44 tr53 ts53 rfl rfl (prN rfl) rfl hv7 ?_)
      refine sN (oA (v := (.arr _ _)) rfl ?_)
      exact s0 (Wk.to (eC rfl (eC rfl (eC rfl (eC rfl (eC rfl eN))))) (mC rfl (mC rfl mN)) rfl (prK rfl))
    refine blockN ?_
    refine thenN ?_
    refine LH.loneT [(0, .int .i64 (i64 (297 + r1))), (3, .sptr [.int .i64 1, .int .i64 2]), (4, .arr 130 (List.length v6)), (5, .arr 135 (List.length v7)), (6, .int .i64 (i64 (n2 + 1)))] [(130, .arr 35 8 (List.map GEntryEvent.lv v6)), (135, .arr 53 4 (List.map GEnrolment.lv v7))] rfl ?_ ?_
    · refine sN (oM (v := (.int _ _)) rfl ?_)
      refine sN (oAdd rfl rfl ?_)
      refine sN (oA (v := (.int _ _)) rfl ?_)
      exact s0 (Wk.to (eC rfl (eC rfl (eC rfl (eC rfl (eC rfl eN))))) (mC rfl (mC rfl mN)) rfl (prK rfl))
    exact roundN (e' := Env.of [(0, .int .i64 (i64 (297 + r1))), (3, .sptr [.int .i64 1, .int .i64 2]), (4, .arr 130 (List.length v6)), (5, .arr 135 (List.length v7)), (6, .int .i64 (i64 (n2 + 1)))]) (m' := Mem.of [(130, .arr 35 8 (List.map GEntryEvent.lv v6)), (135, .arr 53 4 (List.map GEnrolment.lv v7))]) (Wk.to (eC rfl (eC rfl (eC rfl (eC rfl (eC rfl eN))))) (mC rfl (mC rfl mN)) rfl (prK rfl)) ⟨(i64 (n2 + 1)), v6, v7, hrec1 ▸ h, rfl, rfl⟩
  replace h := iteF h hc5
  refine LH.exit ?_
  refine thenX ?_
  refine roundX ?_
  refine blockH ?_
  refine thenN ?_
  refine LH.wk ((Wk.trans (Wk.to (el := [(0, .int .i64 (i64 (297 + r1))), (3, .sptr [.int .i64 1, .int .i64 2]), (4, .arr 130 (List.length l3)), (5, .arr 135 (List.length l4))]) (ml := [(130, .arr 35 8 (List.map GEntryEvent.lv l3)), (135, .arr 53 4 (List.map GEnrolment.lv l4))]) (eC rfl (eC rfl (eC rfl (eC rfl eN)))) (mC rfl (mC rfl mN)) rfl (prK rfl)) (Wk.trans (Wk.frzL (f := GEntryEvent.lv) (el' := [(0, .int .i64 (i64 (297 + r1))), (3, .sptr [.int .i64 1, .int .i64 2]), (4, .lst 8 (List.map GEntryEvent.lv l3)), (5, .arr 135 (List.length l4))]) 130 35 8 l3 rfl rfl (prN rfl) (fK rfl (fK rfl (fZ (fK rfl fN))))) (Wk.trans (Wk.frzL (f := GEnrolment.lv) (el' := [(0, .int .i64 (i64 (297 + r1))), (3, .sptr [.int .i64 1, .int .i64 2]), (4, .lst 8 (List.map GEntryEvent.lv l3)), (5, .lst 4 (List.map GEnrolment.lv l4))]) 135 53 4 l4 rfl rfl (prN rfl) (fK rfl (fK rfl (fK rfl (fZ fN))))) (Wk.to (el := [(0, .int .i64 (i64 (297 + r1))), (3, .sptr [.int .i64 1, .int .i64 2]), (4, .lst 8 (List.map GEntryEvent.lv l3)), (5, .lst 4 (List.map GEnrolment.lv l4))]) (ml := []) (eC rfl (eC rfl (eC rfl (eC rfl eN)))) mN rfl (prK rfl)))))) ?_
  obtain ⟨r8, hr8, h⟩ := bindS h
  refine LH.seqT [(0, .int .i64 (i64 (297 + r1))), (3, .sptr [.int .i64 1, .int .i64 2]), (5, .lst 4 (List.map GEnrolment.lv l4)), (8, .lst 4 (List.map GEnrolment.lv r8.1)), (10, .int .i64 r8.2.2)] [] rfl ?_ ?_
  · refine sN (oM (v := (.lst _ _)) rfl ?_)
    refine sN (oLdA rfl tk41 ta41 ts41 rfl rfl ?_)
    refine sN (oCP (args := [.lst 8 (List.map GEntryEvent.lv l3), .agg [.int .i64 1, .int .i64 2], .int .i64 5]) rfl isF21 rfl (sbR (sbR (sbR sbN))) (entry_Fold_ok hr8) rfl ?_)
    refine sN (oM (v := (.tup _)) rfl ?_)
    refine sN (oEx rfl rfl ?_)
    refine sN (oEx rfl rfl ?_)
    refine sN (oEx rfl rfl ?_)
    refine sN (oA (v := (.lst _ _)) rfl ?_)
    refine sN (oA (v := (.lst _ _)) rfl ?_)
    refine sN (oA (v := (.int _ _)) rfl ?_)
    exact s0 (Wk.to (eC rfl (eC rfl (eC rfl (eC rfl (eC rfl eN))))) mN rfl (prK rfl))
  obtain ⟨r9, hr9, h⟩ := bindS h
  refine LH.seqT [(0, .int .i64 (i64 (297 + r1))), (5, .lst 4 (List.map GEnrolment.lv l4)), (8, .lst 4 (List.map GEnrolment.lv r8.1)), (10, .int .i64 r8.2.2), (11, .lst 4 (List.map GEnrolment.lv r9.1)), (12, .int .i64 r9.2)] [] rfl ?_ ?_
  · refine sN (oM (v := (.lst _ _)) rfl ?_)
    refine sN (oLdA rfl tk41 ta41 ts41 rfl rfl ?_)
    refine sN (oBd (vs := [(0, .int .i64 9000), (1, .int .i64 1)]) tu33 tz33 rfl (lf tf33_0 ts3 tk3 rfl rfl rfl (lf tf33_1 ts3 tk3 rfl rfl rfl lf0)) ?_)
    refine sN (oBd (vs := [(1, .int .i64 1), (2, .agg [.int .i64 9000, .int .i64 1, .int .i64 0])]) tu35 tz35 rfl (lf tf35_1 ts3 tk3 rfl rfl rfl (lf tf35_2 ts33 tk33 rfl rfl rfl lf0)) ?_)
    refine sN (oCP (args := [.lst 4 (List.map GEnrolment.lv l4), .agg [.int .i64 1, .int .i64 2], .agg [.int .i64 0, .int .i64 0, .int .i64 0, .int .i64 1, .int .i64 9000, .int .i64 1, .int .i64 0, .int .i64 0]]) rfl isF30 rfl (sbR (sbR (sbR sbN))) (entry_Apply_ok hr9) rfl ?_)
    refine sN (oM (v := (.tup _)) rfl ?_)
    refine sN (oEx rfl rfl ?_)
    refine sN (oEx rfl rfl ?_)
    refine sN (oA (v := (.lst _ _)) rfl ?_)
    refine sN (oA (v := (.int _ _)) rfl ?_)
    exact s0 (Wk.to (eC rfl (eC rfl (eC rfl (eC rfl (eC rfl (eC rfl eN)))))) mN rfl (prK rfl))
  refine LH.seq ?_
  refine LH.seqT [(0, .int .i64 (i64 (297 + r1))), (5, .lst 4 (List.map GEnrolment.lv l4)), (8, .lst 4 (List.map GEnrolment.lv r8.1)), (10, .int .i64 r8.2.2), (11, .lst 4 (List.map GEnrolment.lv r9.1)), (12, .int .i64 r9.2), (52, .bool (decide ((i64 (297 + r1)) > 300)))] [] rfl ?_ ?_
  · refine sN (oM (v := (.int _ _)) rfl ?_)
    refine sN (oGt rfl rfl ?_)
    exact s0 (Wk.to (eC rfl (eC rfl (eC rfl (eC rfl (eC rfl (eC rfl (eC rfl eN))))))) mN rfl (prK rfl))
  refine LH.cond (t := (decide ((i64 (297 + r1)) > 300))) rfl (fun hc10 => ?_) (fun hc10 => ?_)
  · replace h := iteT h hc10
    obtain ⟨w12, hv, h⟩ := bindS h
    refine LH.seqT [(2, .bool w12)] [] rfl ?_ ?_
    · refine sN (oM (v := (.int _ _)) rfl ?_)
      refine sN (oEq rfl rfl ?_)
      refine sN (oM (v := (.bool _)) rfl ?_)
      by_cases hb13 : (r8.2.2 == 3) = true
      · replace hv := iteT hv hb13
        refine sT rfl (congrArg LV.bool hb13) (oM (v := (.lst _ _)) rfl ?_)
        refine sT rfl (congrArg LV.bool hb13) (oLnL (f := GEnrolment.lv) te44 rfl ?_)
        refine sT rfl (congrArg LV.bool hb13) (oEq rfl rfl ?_)
        refine sN (oPkT (congrArg LV.bool hb13) (v := (.bool _)) rfl ?_)
        refine sN (oM (v := (.bool _)) rfl ?_)
        by_cases hb14 : ((r8.1.length : Int) == 0) = true
        · replace hv := iteT hv hb14
          refine sT rfl (congrArg LV.bool hb14) (oM (v := (.int _ _)) rfl ?_)
          refine sT rfl (congrArg LV.bool hb14) (oEq rfl rfl ?_)
          refine sN (oPkT (congrArg LV.bool hb14) (v := (.bool _)) rfl ?_)
          refine sN (oM (v := (.bool _)) rfl ?_)
          by_cases hb15 : (r9.2 == 1) = true
          · replace hv := iteT hv hb15
            obtain ⟨r16, hr16, hv⟩ := bindS hv
            refine sT rfl (congrArg LV.bool hb15) (oCP (args := []) rfl isF18 rfl sbN (law13_awake_ok hr16) rfl ?_)
            refine sN (oPkT (congrArg LV.bool hb15) (v := (.bool _)) rfl ?_)
            refine sN (oA (v := (.bool _)) rfl ?_)
            obtain rfl := Option.some.inj hv
            exact s0 (Wk.to (eC rfl eN) mN rfl (prK rfl))
          · replace hb15 := bF hb15
            replace hv := iteF hv hb15
            refine sF rfl rfl hb15 ?_
            refine sN (oPkF (congrArg LV.bool hb15) (v := (.bool _)) rfl ?_)
            refine sN (oA (v := (.bool _)) rfl ?_)
            obtain rfl := Option.some.inj hv
            exact s0 (Wk.to (eC rfl eN) mN rfl (prK rfl))
        · replace hb14 := bF hb14
          replace hv := iteF hv hb14
          refine sF rfl rfl hb14 ?_
          refine sF rfl rfl hb14 ?_
          refine sN (oPkF (congrArg LV.bool hb14) (v := (.bool _)) rfl ?_)
          refine sN (oM (v := (.bool _)) rfl ?_)
          refine sF rfl rfl rfl ?_
          refine sN (oPkF rfl (v := (.bool _)) rfl ?_)
          refine sN (oA (v := (.bool _)) rfl ?_)
          obtain rfl := Option.some.inj hv
          exact s0 (Wk.to (eC rfl eN) mN rfl (prK rfl))
      · replace hb13 := bF hb13
        replace hv := iteF hv hb13
        refine sF rfl rfl hb13 ?_
        refine sF rfl rfl hb13 ?_
        refine sF rfl rfl hb13 ?_
        refine sN (oPkF (congrArg LV.bool hb13) (v := (.bool _)) rfl ?_)
        refine sN (oM (v := (.bool _)) rfl ?_)
        refine sF rfl rfl rfl ?_
        refine sF rfl rfl rfl ?_
        refine sN (oPkF rfl (v := (.bool _)) rfl ?_)
        refine sN (oM (v := (.bool _)) rfl ?_)
        refine sF rfl rfl rfl ?_
        refine sN (oPkF rfl (v := (.bool _)) rfl ?_)
        refine sN (oA (v := (.bool _)) rfl ?_)
        obtain rfl := Option.some.inj hv
        exact s0 (Wk.to (eC rfl eN) mN rfl (prK rfl))
    clear hv
    refine LH.ret ?_
    refine thenR ?_
    obtain rfl := Option.some.inj h
    exact retE (congrArg Array.toList Try.results10) (lrT rfl (lr0 ⟨memN mN, rfl, prK rfl, Sub.rfl⟩))
  replace h := iteF h hc10
  refine LH.skip ?_
  refine thenN ?_
  refine LH.wk (Wk.to (el := [(0, .int .i64 (i64 (297 + r1))), (5, .lst 4 (List.map GEnrolment.lv l4)), (8, .lst 4 (List.map GEnrolment.lv r8.1)), (10, .int .i64 r8.2.2), (11, .lst 4 (List.map GEnrolment.lv r9.1)), (12, .int .i64 r9.2)]) (ml := []) (eC rfl (eC rfl (eC rfl (eC rfl (eC rfl (eC rfl eN)))))) mN rfl (prK rfl)) ?_
  refine LH.seq ?_
  obtain ⟨w18, hv, h⟩ := bindS h
  refine LH.seqT [(0, .int .i64 (i64 (297 + r1))), (11, .lst 4 (List.map GEnrolment.lv r9.1)), (12, .int .i64 r9.2), (74, .bool w18)] [] rfl ?_ ?_
  · refine sN (oM (v := (.int _ _)) rfl ?_)
    refine sN (oNe rfl rfl ?_)
    refine sN (oM (v := (.bool _)) rfl ?_)
    by_cases hb19 : (r8.2.2 != 0) = true
    · replace hv := iteT hv hb19
      refine sF rfl rfl hb19 ?_
      refine sF rfl rfl hb19 ?_
      refine sF rfl rfl hb19 ?_
      refine sF rfl rfl hb19 ?_
      refine sN (oPkT (congrArg LV.bool hb19) (v := (.bool _)) rfl ?_)
      obtain rfl := Option.some.inj hv
      exact s0 (Wk.to (eC rfl (eC rfl (eC rfl (eC rfl eN)))) mN rfl (prK rfl))
    · replace hb19 := bF hb19
      replace hv := iteF hv hb19
      refine sT rfl (congrArg LV.bool hb19) (oM (v := (.lst _ _)) rfl ?_)
      refine sT rfl (congrArg LV.bool hb19) (oM (v := (.lst _ _)) rfl ?_)
      obtain ⟨r20, hr20, hv⟩ := bindS hv
      refine sT rfl (congrArg LV.bool hb19) (oCP (args := [.lst 4 (List.map GEnrolment.lv r8.1), .lst 4 (List.map GEnrolment.lv l4)]) rfl isF23 rfl (sbR (sbR sbN)) (law13_same_ok hr20) rfl ?_)
      refine sT rfl (congrArg LV.bool hb19) (oNot rfl ?_)
      refine sN (oPkF (congrArg LV.bool hb19) (v := (.bool _)) rfl ?_)
      obtain rfl := Option.some.inj hv
      exact s0 (Wk.to (eC rfl (eC rfl (eC rfl (eC rfl eN)))) mN rfl (prK rfl))
  clear hv
  refine LH.cond (t := w18) rfl (fun hc21 => ?_) (fun hc21 => ?_)
  · replace h := iteT h hc21
    refine LH.seqT [(2, .bool false)] [] rfl ?_ ?_
    · refine sN (oA (v := (.bool _)) rfl ?_)
      exact s0 (Wk.to (eC rfl eN) mN rfl (prK rfl))
    refine LH.ret ?_
    refine thenR ?_
    obtain rfl := Option.some.inj h
    exact retE (congrArg Array.toList Try.results10) (lrT rfl (lr0 ⟨memN mN, rfl, prK rfl, Sub.rfl⟩))
  replace h := iteF h hc21
  refine LH.skip ?_
  refine thenN ?_
  refine LH.wk (Wk.to (el := [(0, .int .i64 (i64 (297 + r1))), (11, .lst 4 (List.map GEnrolment.lv r9.1)), (12, .int .i64 r9.2)]) (ml := []) (eC rfl (eC rfl (eC rfl eN))) mN rfl (prK rfl)) ?_
  refine LH.seq ?_
  refine LH.seqT [(0, .int .i64 (i64 (297 + r1))), (11, .lst 4 (List.map GEnrolment.lv r9.1)), (12, .int .i64 r9.2), (76, .bool ((i64 (297 + r1)) == 300))] [] rfl ?_ ?_
  · refine sN (oM (v := (.int _ _)) rfl ?_)
    refine sN (oEq rfl rfl ?_)
    exact s0 (Wk.to (eC rfl (eC rfl (eC rfl (eC rfl eN)))) mN rfl (prK rfl))
  refine LH.cond (t := ((i64 (297 + r1)) == 300)) rfl (fun hc22 => ?_) (fun hc22 => ?_)
  · replace h := iteT h hc22
    obtain ⟨w24, hv, h⟩ := bindS h
    refine LH.seqT [(2, .bool w24)] [] rfl ?_ ?_
    · refine sN (oM (v := (.int _ _)) rfl ?_)
      refine sN (oEq rfl rfl ?_)
      refine sN (oM (v := (.bool _)) rfl ?_)
      by_cases hb25 : (r9.2 == 3) = true
      · replace hv := iteT hv hb25
        obtain ⟨r26, hr26, hv⟩ := bindS hv
        refine sT rfl (congrArg LV.bool hb25) (oCP (args := []) rfl isF18 rfl sbN (law13_awake_ok hr26) rfl ?_)
        refine sN (oPkT (congrArg LV.bool hb25) (v := (.bool _)) rfl ?_)
        refine sN (oA (v := (.bool _)) rfl ?_)
        obtain rfl := Option.some.inj hv
        exact s0 (Wk.to (eC rfl eN) mN rfl (prK rfl))
      · replace hb25 := bF hb25
        replace hv := iteF hv hb25
        refine sF rfl rfl hb25 ?_
        refine sN (oPkF (congrArg LV.bool hb25) (v := (.bool _)) rfl ?_)
        refine sN (oA (v := (.bool _)) rfl ?_)
        obtain rfl := Option.some.inj hv
        exact s0 (Wk.to (eC rfl eN) mN rfl (prK rfl))
    clear hv
    refine LH.ret ?_
    refine thenR ?_
    obtain rfl := Option.some.inj h
    exact retE (congrArg Array.toList Try.results10) (lrT rfl (lr0 ⟨memN mN, rfl, prK rfl, Sub.rfl⟩))
  replace h := iteF h hc22
  refine LH.skip ?_
  refine thenN ?_
  refine LH.wk (Wk.to (el := [(0, .int .i64 (i64 (297 + r1))), (11, .lst 4 (List.map GEnrolment.lv r9.1)), (12, .int .i64 r9.2)]) (ml := []) (eC rfl (eC rfl (eC rfl eN))) mN rfl (prK rfl)) ?_
  obtain ⟨w28, hv, h⟩ := bindS h
  refine LH.seqT [(2, .bool w28)] [] rfl ?_ ?_
  · refine sN (oM (v := (.int _ _)) rfl ?_)
    refine sN (oEq rfl rfl ?_)
    refine sN (oM (v := (.bool _)) rfl ?_)
    by_cases hb29 : (r9.2 == 0) = true
    · replace hv := iteT hv hb29
      refine sT rfl (congrArg LV.bool hb29) (oM (v := (.lst _ _)) rfl ?_)
      refine sT rfl (congrArg LV.bool hb29) (oLnL (f := GEnrolment.lv) te44 rfl ?_)
      refine sT rfl (congrArg LV.bool hb29) (oM (v := (.int _ _)) rfl ?_)
      refine sT rfl (congrArg LV.bool hb29) (oAdd rfl rfl ?_)
      refine sT rfl (congrArg LV.bool hb29) (oEq rfl rfl ?_)
      refine sN (oPkT (congrArg LV.bool hb29) (v := (.bool _)) rfl ?_)
      refine sN (oM (v := (.bool _)) rfl ?_)
      by_cases hb30 : ((r9.1.length : Int) == (i64 ((i64 (297 + r1)) + 1))) = true
      · replace hv := iteT hv hb30
        obtain ⟨r31, hr31, hv⟩ := bindS hv
        refine sT rfl (congrArg LV.bool hb30) (oCP (args := []) rfl isF18 rfl sbN (law13_awake_ok hr31) rfl ?_)
        refine sN (oPkT (congrArg LV.bool hb30) (v := (.bool _)) rfl ?_)
        refine sN (oA (v := (.bool _)) rfl ?_)
        obtain rfl := Option.some.inj hv
        exact s0 (Wk.to (eC rfl eN) mN rfl (prK rfl))
      · replace hb30 := bF hb30
        replace hv := iteF hv hb30
        refine sF rfl rfl hb30 ?_
        refine sN (oPkF (congrArg LV.bool hb30) (v := (.bool _)) rfl ?_)
        refine sN (oA (v := (.bool _)) rfl ?_)
        obtain rfl := Option.some.inj hv
        exact s0 (Wk.to (eC rfl eN) mN rfl (prK rfl))
    · replace hb29 := bF hb29
      replace hv := iteF hv hb29
      refine sF rfl rfl hb29 ?_
      refine sF rfl rfl hb29 ?_
      refine sF rfl rfl hb29 ?_
      refine sF rfl rfl hb29 ?_
      refine sF rfl rfl hb29 ?_
      refine sN (oPkF (congrArg LV.bool hb29) (v := (.bool _)) rfl ?_)
      refine sN (oM (v := (.bool _)) rfl ?_)
      refine sF rfl rfl rfl ?_
      refine sN (oPkF rfl (v := (.bool _)) rfl ?_)
      refine sN (oA (v := (.bool _)) rfl ?_)
      obtain rfl := Option.some.inj hv
      exact s0 (Wk.to (eC rfl eN) mN rfl (prK rfl))
  clear hv
  refine LH.ret ?_
  obtain rfl := Option.some.inj h
  exact retE (congrArg Array.toList Try.results10) (lrT rfl (lr0 ⟨memN mN, rfl, prK rfl, Sub.rfl⟩))

end Go.Proofs.Ytkkhmngmhckgbaa
