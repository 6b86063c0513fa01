/- Walks, printed by program (gen.py): each function computes its plain function. -/
import Derived.Test.YtkkhmngmhckgbaaW3
set_option linter.unusedVariables false
set_option linter.unusedSimpArgs false
set_option maxRecDepth 100000
namespace Go.Proofs.Ytkkhmngmhckgbaa
open Go.L Go.Sh
theorem ref13_Find_ok {F : Nat} {p0 : List GEnrolment} {p1 : Int} {p2 : Int} {r : GEnrolment × Bool} (h : ref13_Find F p0 p1 p2 = some r) : LCall Try.prog 32 [.lst 4 (List.map GEnrolment.lv p0), .int .i64 p1, .int .i64 p2] (Mem.of []) (.tup [.agg [.int .i64 r.1.Entry.Candidate, .int .i64 r.1.Entry.Centre, .int .i64 r.1.Entry.Paper, .bool r.1.Late], .bool r.2]) (Mem.of []) := by
  unfold ref13_Find at h
  refine bodyT Try.func32 rfl (by rw [Try.ntmps32]; exact Nat.le_of_ble_eq_true rfl) ?_
  refine LH.wk (Wk.to (el := [(0, .lst 4 (List.map GEnrolment.lv p0)), (1, .int .i64 p1), (2, .int .i64 p2)]) (ml := []) (eC rfl (eC rfl (eC rfl eN))) mN rfl (prK rfl)) ?_
  refine LH.seqT [(0, .lst 4 (List.map GEnrolment.lv p0)), (1, .int .i64 p1), (2, .int .i64 p2), (6, .ptr 106 0)] [(106, .box [.int .i64 0, .int .i64 0, .int .i64 0, .bool false])] rfl ?_ ?_
  · refine sN (oAl (id := 106) rfl tz53 rfl rfl ?_)
    refine sN (oA (v := (.bool _)) rfl ?_)
    exact s0 (Wk.to (eC rfl (eC rfl (eC rfl (eC rfl eN)))) (mC rfl mN) rfl (prK rfl))
  obtain ⟨r1, hr1, h⟩ := bindS h
  refine LH.seqT [(0, .lst 4 (List.map GEnrolment.lv p0)), (6, .ptr 106 0), (8, .int .i64 r1)] [(106, .box [.int .i64 0, .int .i64 0, .int .i64 0, .bool false])] rfl ?_ ?_
  · refine sN (oM (v := (.lst _ _)) rfl ?_)
    refine sN (oM (v := (.int _ _)) rfl ?_)
    refine sN (oM (v := (.int _ _)) rfl ?_)
    refine sN (oCP (args := [.lst 4 (List.map GEnrolment.lv p0), .int .i64 p1, .int .i64 p2]) rfl isF48 rfl (sbR (sbR (sbR sbN))) (ref13_index_ok hr1) rfl ?_)
    refine sN (oA (v := (.int _ _)) rfl ?_)
    exact s0 (Wk.to (eC rfl (eC rfl (eC rfl eN))) (mC rfl mN) rfl (prK rfl))
  refine LH.seq ?_
  refine LH.seqT [(0, .lst 4 (List.map GEnrolment.lv p0)), (6, .ptr 106 0), (8, .int .i64 r1), (14, .bool (decide (r1 < 0)))] [(106, .box [.int .i64 0, .int .i64 0, .int .i64 0, .bool false])] rfl ?_ ?_
  · refine sN (oM (v := (.int _ _)) rfl ?_)
    refine sN (oLt rfl rfl ?_)
    exact s0 (Wk.to (eC rfl (eC rfl (eC rfl (eC rfl eN)))) (mC rfl mN) rfl (prK rfl))
  refine LH.cond (t := (decide (r1 < 0))) rfl (fun hc2 => ?_) (fun hc2 => ?_)
  · replace h := iteT h hc2
    refine LH.seqT [(6, .sptr [.int .i64 0, .int .i64 0, .int .i64 0, .bool false]), (7, .bool false)] [] rfl ?_ ?_
    · refine sN (oBd (vs := []) tu53 tz53 rfl lf0 ?_)
      refine s_ (oSt rfl rfl rfl tk53 ts53 rfl rfl rfl ?_)
      refine sN (oA (v := (.bool _)) rfl ?_)
      exact s0 ((Wk.trans (Wk.to (el := [(6, .ptr 106 0), (7, .bool false)]) (ml := [(106, .box [.int .i64 0, .int .i64 0, .int .i64 0, .bool false])]) (eC rfl (eC rfl eN)) (mC rfl mN) rfl (prK rfl)) (Wk.trans (Wk.frzB 106 [.int .i64 0, .int .i64 0, .int .i64 0, .bool false] rfl rfl rfl (prN rfl)) (Wk.to (eC rfl (eC rfl eN)) mN rfl (prK rfl)))))
    refine LH.ret ?_
    refine thenR ?_
    obtain rfl := Option.some.inj h
    exact retE (congrArg Array.toList Try.results32) (lrSA rfl tk53 ta53 ts53 rfl rfl (lrT rfl (lr0 ⟨memN mN, rfl, prK rfl, (Sub.tup (sbR (sbR sbN)))⟩)))
  replace h := iteF h hc2
  refine LH.skip ?_
  refine thenN ?_
  refine LH.wk (Wk.to (el := [(0, .lst 4 (List.map GEnrolment.lv p0)), (6, .ptr 106 0), (8, .int .i64 r1)]) (ml := [(106, .box [.int .i64 0, .int .i64 0, .int .i64 0, .bool false])]) (eC rfl (eC rfl (eC rfl eN))) (mC rfl mN) rfl (prK rfl)) ?_
  obtain ⟨x3, hx3, h⟩ := bindS h
  refine LH.seqT [(6, .sptr [.int .i64 x3.Entry.Candidate, .int .i64 x3.Entry.Centre, .int .i64 x3.Entry.Paper, .bool x3.Late]), (7, .bool true)] [] rfl ?_ ?_
  · refine sN (oM (v := (.lst _ _)) rfl ?_)
    refine sN (oM (v := (.int _ _)) rfl ?_)
    refine sN (oIx (f := GEnrolment.lv) te44 tk53 ts53 rfl rfl GEnrolment.ok hx3 rfl ?_)
    refine sN (oLdA rfl tk53 ta53 ts53 rfl rfl ?_)
    refine s_ (oSt rfl rfl rfl tk53 ts53 rfl rfl rfl ?_)
    refine sN (oA (v := (.bool _)) rfl ?_)
    exact s0 ((Wk.trans (Wk.to (el := [(6, .ptr 106 0), (7, .bool true)]) (ml := [(106, .box [.int .i64 x3.Entry.Candidate, .int .i64 x3.Entry.Centre, .int .i64 x3.Entry.Paper, .bool x3.Late])]) (eC rfl (eC rfl eN)) (mC rfl mN) rfl (prK rfl)) (Wk.trans (Wk.frzB 106 [.int .i64 x3.Entry.Candidate, .int .i64 x3.Entry.Centre, .int .i64 x3.Entry.Paper, .bool x3.Late] rfl rfl rfl (prN rfl)) (Wk.to (eC rfl (eC rfl eN)) mN rfl (prK rfl)))))
  refine LH.ret ?_
  obtain rfl := Option.some.inj h
  exact retE (congrArg Array.toList Try.results32) (lrSA rfl tk53 ta53 ts53 rfl rfl (lrT rfl (lr0 ⟨memN mN, rfl, prK rfl, (Sub.tup (sbR (sbR sbN)))⟩)))

theorem entry_Paper_ok {F : Nat} {p0 : List GEnrolment} {p1 : Int} {r : List GEnrolment} (h : entry_Paper F p0 p1 = some r) : LCall Try.prog 33 [.lst 4 (List.map GEnrolment.lv p0), .int .i64 p1] (Mem.of []) (.lst 4 (List.map GEnrolment.lv r)) (Mem.of []) := by
  unfold entry_Paper at h
  refine bodyT Try.func33 rfl (by rw [Try.ntmps33]; exact Nat.le_of_ble_eq_true rfl) ?_
  refine LH.wk (Wk.to (el := [(0, .lst 4 (List.map GEnrolment.lv p0)), (1, .int .i64 p1)]) (ml := []) (eC rfl (eC rfl eN)) mN rfl (prK rfl)) ?_
  refine LH.seqT [(0, .lst 4 (List.map GEnrolment.lv p0)), (1, .int .i64 p1)] [] rfl ?_ ?_
  · refine sN (oA (v := .nil) rfl ?_)
    exact s0 (Wk.to (eC rfl (eC rfl eN)) mN rfl (prK rfl))
  refine LH.seqT [(0, .lst 4 (List.map GEnrolment.lv p0)), (1, .int .i64 p1), (5, .nil)] [] rfl ?_ ?_
  · refine sN (oA (v := .nil) rfl ?_)
    exact s0 (Wk.to (eC rfl (eC rfl (eC rfl eN))) mN rfl (prK rfl))
  refine LH.seq ?_
  refine LH.seqT [(1, .int .i64 p1), (5, .nil), (8, .lst 4 (List.map GEnrolment.lv p0)), (9, .int .i64 (p0.length : Int)), (10, .int .i64 0)] [] rfl ?_ ?_
  · refine sN (oM (v := (.lst _ _)) rfl ?_)
    refine sN (oLnL (f := GEnrolment.lv) te44 rfl ?_)
    refine sN (oM (v := (.int _ _)) rfl ?_)
    exact s0 (Wk.to (eC rfl (eC rfl (eC rfl (eC rfl (eC rfl eN))))) mN rfl (prK rfl))
  refine LH.block ?_
  refine LH.wk ((Wk.trans (Wk.to (el := [(1, .int .i64 p1), (5, .nil), (8, .lst 4 (List.map GEnrolment.lv p0)), (9, .int .i64 (p0.length : Int)), (10, .int .i64 0)]) (ml := []) (eC rfl (eC rfl (eC rfl (eC rfl (eC rfl eN))))) mN rfl (prK rfl)) (Wk.trans (Wk.to (el := [(1, .int .i64 p1), (5, .nil), (8, .lst 4 (List.map GEnrolment.lv p0)), (9, .int .i64 (p0.length : Int)), (10, .int .i64 0)]) (ml := []) (eC rfl (eC rfl (eC rfl (eC rfl (eC rfl eN))))) mN rfl (prK rfl)) (Wk.trans (Wk.ownL (el' := [(1, .int .i64 p1), (5, .arr 122 (List.length ([] : List GEnrolment))), (8, .lst 4 (List.map GEnrolment.lv p0)), (9, .int .i64 (p0.length : Int)), (10, .int .i64 0)]) 122 53 4 rfl rfl (wK (wO (wK (wK (wK wN)))))) (Wk.to (el := [(1, .int .i64 p1), (5, .arr 122 (List.length ([] : List GEnrolment))), (8, .lst 4 (List.map GEnrolment.lv p0)), (9, .int .i64 (p0.length : Int)), (10, .int .i64 0)]) (ml := [(122, .arr 53 4 (List.map GEnrolment.lv ([] : List GEnrolment)))]) (eC rfl (eC rfl (eC rfl (eC rfl (eC rfl eN))))) (mC rfl mN) rfl (prK rfl)))))) ?_
  refine LH.loop (fun n e m => ∃ (n1 : Int) (l2 : List GEnrolment), entry_Paper_L1 p0 p1 n n1 l2 = some r ∧ e = Env.of [(1, .int .i64 p1), (5, .arr 122 (List.length l2)), (8, .lst 4 (List.map GEnrolment.lv p0)), (9, .int .i64 (p0.length : Int)), (10, .int .i64 n1)] ∧ m = Mem.of [(122, .arr 53 4 (List.map GEnrolment.lv l2))]) F ⟨0, ([] : List GEnrolment), h, rfl, rfl⟩ ?_
  clear h
  rintro n e m ⟨n1, l2, h, rfl, rfl⟩
  rcases n with _ | n
  · cases (show Option.none = some _ from h)
  obtain ⟨rec1, hrec1⟩ : ∃ f, f = entry_Paper_L1 p0 p1 n := ⟨_, rfl⟩
  replace h : entry_Paper_L1_B p0 p1 rec1 n1 l2 = some r := hrec1 ▸ h
  unfold entry_Paper_L1_B at h
  refine LH.seqT [(1, .int .i64 p1), (5, .arr 122 (List.length l2)), (8, .lst 4 (List.map GEnrolment.lv p0)), (9, .int .i64 (p0.length : Int)), (10, .int .i64 n1), (11, .bool (decide (n1 < (p0.length : Int))))] [(122, .arr 53 4 (List.map GEnrolment.lv l2))] rfl ?_ ?_
  · refine sN (oLt rfl rfl ?_)
    exact s0 (Wk.to (eC rfl (eC rfl (eC rfl (eC rfl (eC rfl (eC rfl eN)))))) (mC rfl mN) rfl (prK rfl))
  refine LH.seq ?_
  refine LH.cond (t := (decide (n1 < (p0.length : Int)))) rfl (fun hc3 => ?_) (fun hc3 => ?_)
  · replace h := iteT h hc3
    refine LH.skip ?_
    refine thenN ?_
    refine LH.wk (Wk.to (el := [(1, .int .i64 p1), (5, .arr 122 (List.length l2)), (8, .lst 4 (List.map GEnrolment.lv p0)), (9, .int .i64 (p0.length : Int)), (10, .int .i64 n1)]) (ml := [(122, .arr 53 4 (List.map GEnrolment.lv l2))]) (eC rfl (eC rfl (eC rfl (eC rfl (eC rfl eN))))) (mC rfl mN) rfl (prK rfl)) ?_
    refine LH.seq ?_
    refine LH.block ?_
    obtain ⟨x4, hx4, h⟩ := bindS h
    refine LH.seqT [(1, .int .i64 p1), (5, .arr 122 (List.length l2)), (7, .sptr [.int .i64 x4.Entry.Candidate, .int .i64 x4.Entry.Centre, .int .i64 x4.Entry.Paper, .bool x4.Late]), (8, .lst 4 (List.map GEnrolment.lv p0)), (9, .int .i64 (p0.length : Int)), (10, .int .i64 n1)] [(122, .arr 53 4 (List.map GEnrolment.lv l2))] rfl ?_ ?_
    · refine sN (oIx (f := GEnrolment.lv) te44 tk53 ts53 rfl rfl GEnrolment.ok hx4 rfl ?_)
      refine sN (oLdA rfl tk53 ta53 ts53 rfl rfl ?_)
      refine sN (oAl (id := 107) rfl tz53 rfl rfl ?_)
      refine s_ (oSt rfl rfl rfl tk53 ts53 rfl rfl rfl ?_)
      exact s0 ((Wk.trans (Wk.to (el := [(1, .int .i64 p1), (5, .arr 122 (List.length l2)), (7, .ptr 107 0), (8, .lst 4 (List.map GEnrolment.lv p0)), (9, .int .i64 (p0.length : Int)), (10, .int .i64 n1)]) (ml := [(107, .box [.int .i64 x4.Entry.Candidate, .int .i64 x4.Entry.Centre, .int .i64 x4.Entry.Paper, .bool x4.Late]), (122, .arr 53 4 (List.map GEnrolment.lv l2))]) (eC rfl (eC rfl (eC rfl (eC rfl (eC rfl (eC rfl eN)))))) (mC rfl (mC rfl mN)) rfl (prK rfl)) (Wk.trans (Wk.frzB 107 [.int .i64 x4.Entry.Candidate, .int .i64 x4.Entry.Centre, .int .i64 x4.Entry.Paper, .bool x4.Late] rfl rfl rfl (prN rfl)) (Wk.to (eC rfl (eC rfl (eC rfl (eC rfl (eC rfl (eC rfl eN)))))) (mC rfl mN) rfl (prK rfl)))))
    refine LH.seqT [(1, .int .i64 p1), (5, .arr 122 (List.length l2)), (7, .sptr [.int .i64 x4.Entry.Candidate, .int .i64 x4.Entry.Centre, .int .i64 x4.Entry.Paper, .bool x4.Late]), (8, .lst 4 (List.map GEnrolment.lv p0)), (9, .int .i64 (p0.length : Int)), (10, .int .i64 n1), (18, .bool (x4.Entry.Paper == p1))] [(122, .arr 53 4 (List.map GEnrolment.lv l2))] rfl ?_ ?_
    · refine sN (oFaS tf53_0 tk33 ts33 rfl rfl rfl ?_)
      refine sN (oFaS tf33_2 tk3 ts3 rfl rfl rfl ?_)
      refine sN (oLd rfl tk3 ta3 ?_)
      refine sN (oM (v := (.int _ _)) rfl ?_)
      refine sN (oEq rfl rfl ?_)
      exact s0 (Wk.to (eC rfl (eC rfl (eC rfl (eC rfl (eC rfl (eC rfl (eC rfl eN))))))) (mC rfl mN) rfl (prK rfl))
    refine LH.cond (t := (x4.Entry.Paper == p1)) rfl (fun hc5 => ?_) (fun hc5 => ?_)
    · replace h := iteT h hc5
      obtain ⟨v6, hv6, h⟩ := bindS h
      refine LH.loneT [(1, .int .i64 p1), (5, .arr 122 (List.length v6)), (8, .lst 4 (List.map GEnrolment.lv p0)), (9, .int .i64 (p0.length : Int)), (10, .int .i64 n1)] [(122, .arr 53 4 (List.map GEnrolment.lv v6))] rfl ?_ ?_
      · refine sN (oM (v := (.arr _ _)) rfl ?_)
        refine sN (oLdA rfl tk53 ta53 ts53 rfl rfl ?_)
        refine sN (oBS (f := GEnrolment.lv) (ys := [x4]) te44 tr53 ts53 rfl rfl rfl GEnrolment.ok ?_)
        refine sN (oAp (f := GEnrolment.lv) te44 tr53 ts53 rfl rfl (prN rfl) rfl hv6 ?_)
        refine sN (oA (v := (.arr _ _)) rfl ?_)
        exact s0 (Wk.to (eC rfl (eC rfl (eC rfl (eC rfl (eC rfl eN))))) (mC rfl mN) rfl (prK rfl))
      refine blockN ?_
      refine thenN ?_
      refine LH.loneT [(1, .int .i64 p1), (5, .arr 122 (List.length v6)), (8, .lst 4 (List.map GEnrolment.lv p0)), (9, .int .i64 (p0.length : Int)), (10, .int .i64 (i64 (n1 + 1)))] [(122, .arr 53 4 (List.map GEnrolment.lv v6))] rfl ?_ ?_
      · refine sN (oAdd rfl rfl ?_)
        refine sN (oM (v := (.int _ _)) rfl ?_)
        exact s0 (Wk.to (eC rfl (eC rfl (eC rfl (eC rfl (eC rfl eN))))) (mC rfl mN) rfl (prK rfl))
      exact roundN (e' := Env.of [(1, .int .i64 p1), (5, .arr 122 (List.length v6)), (8, .lst 4 (List.map GEnrolment.lv p0)), (9, .int .i64 (p0.length : Int)), (10, .int .i64 (i64 (n1 + 1)))]) (m' := Mem.of [(122, .arr 53 4 (List.map GEnrolment.lv v6))]) (Wk.to (eC rfl (eC rfl (eC rfl (eC rfl (eC rfl eN))))) (mC rfl mN) rfl (prK rfl)) ⟨(i64 (n1 + 1)), v6, hrec1 ▸ h, rfl, rfl⟩
    replace h := iteF h hc5
    refine LH.skip ?_
    refine blockN ?_
    refine thenN ?_
    refine LH.wk (Wk.to (el := [(1, .int .i64 p1), (5, .arr 122 (List.length l2)), (8, .lst 4 (List.map GEnrolment.lv p0)), (9, .int .i64 (p0.length : Int)), (10, .int .i64 n1)]) (ml := [(122, .arr 53 4 (List.map GEnrolment.lv l2))]) (eC rfl (eC rfl (eC rfl (eC rfl (eC rfl eN))))) (mC rfl mN) rfl (prK rfl)) ?_
    refine LH.loneT [(1, .int .i64 p1), (5, .arr 122 (List.length l2)), (8, .lst 4 (List.map GEnrolment.lv p0)), (9, .int .i64 (p0.length : Int)), (10, .int .i64 (i64 (n1 + 1)))] [(122, .arr 53 4 (List.map GEnrolment.lv l2))] rfl ?_ ?_
    · refine sN (oAdd rfl rfl ?_)
      refine sN (oM (v := (.int _ _)) rfl ?_)
      exact s0 (Wk.to (eC rfl (eC rfl (eC rfl (eC rfl (eC rfl eN))))) (mC rfl mN) rfl (prK rfl))
    exact roundN (e' := Env.of [(1, .int .i64 p1), (5, .arr 122 (List.length l2)), (8, .lst 4 (List.map GEnrolment.lv p0)), (9, .int .i64 (p0.length : Int)), (10, .int .i64 (i64 (n1 + 1)))]) (m' := Mem.of [(122, .arr 53 4 (List.map GEnrolment.lv l2))]) (Wk.to (eC rfl (eC rfl (eC rfl (eC rfl (eC rfl eN))))) (mC rfl mN) rfl (prK rfl)) ⟨(i64 (n1 + 1)), l2, hrec1 ▸ h, rfl, rfl⟩
  replace h := iteF h hc3
  refine LH.exit ?_
  refine thenX ?_
  refine roundX ?_
  refine blockH ?_
  refine thenN ?_
  refine LH.wk ((Wk.trans (Wk.to (el := [(5, .arr 122 (List.length l2))]) (ml := [(122, .arr 53 4 (List.map GEnrolment.lv l2))]) (eC rfl eN) (mC rfl mN) rfl (prK rfl)) (Wk.trans (Wk.frzL (f := GEnrolment.lv) (el' := [(5, .lst 4 (List.map GEnrolment.lv l2))]) 122 53 4 l2 rfl rfl (prN rfl) (fZ fN)) (Wk.to (el := [(5, .lst 4 (List.map GEnrolment.lv l2))]) (ml := []) (eC rfl eN) mN rfl (prK rfl))))) ?_
  refine LH.seqT [(4, .lst 4 (List.map GEnrolment.lv l2))] [] rfl ?_ ?_
  · refine sN (oM (v := (.lst _ _)) rfl ?_)
    refine sN (oA (v := (.lst _ _)) rfl ?_)
    exact s0 (Wk.to (eC rfl eN) mN rfl (prK rfl))
  refine LH.ret ?_
  obtain rfl := Option.some.inj h
  exact retE (congrArg Array.toList Try.results33) (lrT rfl (lr0 ⟨memN mN, rfl, prK rfl, Sub.rfl⟩))

theorem ref13_Paper_ok {F : Nat} {p0 : List GEnrolment} {p1 : Int} {r : List GEnrolment} (h : ref13_Paper F p0 p1 = some r) : LCall Try.prog 34 [.lst 4 (List.map GEnrolment.lv p0), .int .i64 p1] (Mem.of []) (.lst 4 (List.map GEnrolment.lv r)) (Mem.of []) := by
  unfold ref13_Paper at h
  refine bodyT Try.func34 rfl (by rw [Try.ntmps34]; exact Nat.le_of_ble_eq_true rfl) ?_
  refine LH.wk (Wk.to (el := [(0, .lst 4 (List.map GEnrolment.lv p0)), (1, .int .i64 p1)]) (ml := []) (eC rfl (eC rfl eN)) mN rfl (prK rfl)) ?_
  refine LH.seqT [(0, .lst 4 (List.map GEnrolment.lv p0)), (1, .int .i64 p1)] [] rfl ?_ ?_
  · refine sN (oA (v := .nil) rfl ?_)
    exact s0 (Wk.to (eC rfl (eC rfl eN)) mN rfl (prK rfl))
  refine LH.seqT [(0, .lst 4 (List.map GEnrolment.lv p0)), (1, .int .i64 p1), (5, .nil)] [] rfl ?_ ?_
  · refine sN (oA (v := .nil) rfl ?_)
    exact s0 (Wk.to (eC rfl (eC rfl (eC rfl eN))) mN rfl (prK rfl))
  refine LH.seq ?_
  refine LH.seqT [(0, .lst 4 (List.map GEnrolment.lv p0)), (1, .int .i64 p1), (5, .nil), (6, .int .i64 0)] [] rfl ?_ ?_
  · refine sN (oA (v := (.int _ _)) rfl ?_)
    exact s0 (Wk.to (eC rfl (eC rfl (eC rfl (eC rfl eN)))) mN rfl (prK rfl))
  refine LH.block ?_
  refine LH.wk ((Wk.trans (Wk.to (el := [(0, .lst 4 (List.map GEnrolment.lv p0)), (1, .int .i64 p1), (5, .nil), (6, .int .i64 0)]) (ml := []) (eC rfl (eC rfl (eC rfl (eC rfl eN)))) mN rfl (prK rfl)) (Wk.trans (Wk.to (el := [(0, .lst 4 (List.map GEnrolment.lv p0)), (1, .int .i64 p1), (5, .nil), (6, .int .i64 0)]) (ml := []) (eC rfl (eC rfl (eC rfl (eC rfl eN)))) mN rfl (prK rfl)) (Wk.trans (Wk.ownL (el' := [(0, .lst 4 (List.map GEnrolment.lv p0)), (1, .int .i64 p1), (5, .arr 127 (List.length ([] : List GEnrolment))), (6, .int .i64 0)]) 127 53 4 rfl rfl (wK (wK (wO (wK wN))))) (Wk.to (el := [(0, .lst 4 (List.map GEnrolment.lv p0)), (1, .int .i64 p1), (5, .arr 127 (List.length ([] : List GEnrolment))), (6, .int .i64 0)]) (ml := [(127, .arr 53 4 (List.map GEnrolment.lv ([] : List GEnrolment)))]) (eC rfl (eC rfl (eC rfl (eC rfl eN)))) (mC rfl mN) rfl (prK rfl)))))) ?_
  refine LH.loop (fun n e m => ∃ (n1 : Int) (l2 : List GEnrolment), ref13_Paper_L1 p0 p1 n n1 l2 = some r ∧ e = Env.of [(0, .lst 4 (List.map GEnrolment.lv p0)), (1, .int .i64 p1), (5, .arr 127 (List.length l2)), (6, .int .i64 n1)] ∧ m = Mem.of [(127, .arr 53 4 (List.map GEnrolment.lv l2))]) F ⟨0, ([] : List GEnrolment), h, rfl, rfl⟩ ?_
  clear h
  rintro n e m ⟨n1, l2, h, rfl, rfl⟩
  rcases n with _ | n
  · cases (show Option.none = some _ from h)
  obtain ⟨rec1, hrec1⟩ : ∃ f, f = ref13_Paper_L1 p0 p1 n := ⟨_, rfl⟩
  replace h : ref13_Paper_L1_B p0 p1 rec1 n1 l2 = some r := hrec1 ▸ h
  unfold ref13_Paper_L1_B at h
  refine LH.seq ?_
  refine LH.seqT [(0, .lst 4 (List.map GEnrolment.lv p0)), (1, .int .i64 p1), (5, .arr 127 (List.length l2)), (6, .int .i64 n1), (10, .bool (decide (n1 < (p0.length : Int))))] [(127, .arr 53 4 (List.map GEnrolment.lv l2))] rfl ?_ ?_
  · refine sN (oM (v := (.int _ _)) rfl ?_)
    refine sN (oM (v := (.lst _ _)) rfl ?_)
    refine sN (oLnL (f := GEnrolment.lv) te44 rfl ?_)
    refine sN (oLt rfl rfl ?_)
    exact s0 (Wk.to (eC rfl (eC rfl (eC rfl (eC rfl (eC rfl eN))))) (mC rfl mN) rfl (prK rfl))
  refine LH.cond (t := (decide (n1 < (p0.length : Int)))) rfl (fun hc3 => ?_) (fun hc3 => ?_)
  · replace h := iteT h hc3
    refine LH.skip ?_
    refine thenN ?_
    refine LH.wk (Wk.to (el := [(0, .lst 4 (List.map GEnrolment.lv p0)), (1, .int .i64 p1), (5, .arr 127 (List.length l2)), (6, .int .i64 n1)]) (ml := [(127, .arr 53 4 (List.map GEnrolment.lv l2))]) (eC rfl (eC rfl (eC rfl (eC rfl eN)))) (mC rfl mN) rfl (prK rfl)) ?_
    refine LH.seq ?_
    refine LH.block ?_
    obtain ⟨x4, hx4, h⟩ := bindS h
    refine LH.seqT [(0, .lst 4 (List.map GEnrolment.lv p0)), (1, .int .i64 p1), (5, .arr 127 (List.length l2)), (6, .int .i64 n1), (20, .bool (x4.Entry.Paper == p1))] [(127, .arr 53 4 (List.map GEnrolment.lv l2))] rfl ?_ ?_
    · refine sN (oM (v := (.lst _ _)) rfl ?_)
      refine sN (oM (v := (.int _ _)) rfl ?_)
      refine sN (oIx (f := GEnrolment.lv) te44 tk53 ts53 rfl rfl GEnrolment.ok hx4 rfl ?_)
      refine sN (oFaS tf53_0 tk33 ts33 rfl rfl rfl ?_)
      refine sN (oFaS tf33_2 tk3 ts3 rfl rfl rfl ?_)
      refine sN (oLd rfl tk3 ta3 ?_)
      refine sN (oM (v := (.int _ _)) rfl ?_)
      refine sN (oEq rfl rfl ?_)
      exact s0 (Wk.to (eC rfl (eC rfl (eC rfl (eC rfl (eC rfl eN))))) (mC rfl mN) rfl (prK rfl))
    refine LH.cond (t := (x4.Entry.Paper == p1)) rfl (fun hc5 => ?_) (fun hc5 => ?_)
    · replace h := iteT h hc5
      obtain ⟨x6, hx6, h⟩ := bindS h
      obtain ⟨v7, hv7, h⟩ := bindS h
      refine LH.loneT [(0, .lst 4 (List.map GEnrolment.lv p0)), (1, .int .i64 p1), (5, .arr 127 (List.length v7)), (6, .int .i64 n1)] [(127, .arr 53 4 (List.map GEnrolment.lv v7))] rfl ?_ ?_
      · refine sN (oM (v := (.arr _ _)) rfl ?_)
        refine sN (oM (v := (.lst _ _)) rfl ?_)
        refine sN (oM (v := (.int _ _)) rfl ?_)
        refine sN (oIx (f := GEnrolment.lv) te44 tk53 ts53 rfl rfl GEnrolment.ok hx6 rfl ?_)
        refine sN (oLdA rfl tk53 ta53 ts53 rfl rfl ?_)
        refine sN (oBS (f := GEnrolment.lv) (ys := [x6]) te44 tr53 ts53 rfl rfl rfl GEnrolment.ok ?_)
        refine sN (oAp (f := GEnrolment.lv) te44 tr53 ts53 rfl rfl (prN rfl) rfl hv7 ?_)
        refine sN (oA (v := (.arr _ _)) rfl ?_)
        exact s0 (Wk.to (eC rfl (eC rfl (eC rfl (eC rfl eN)))) (mC rfl mN) rfl (prK rfl))
      refine blockN ?_
      refine thenN ?_
      refine LH.loneT [(0, .lst 4 (List.map GEnrolment.lv p0)), (1, .int .i64 p1), (5, .arr 127 (List.length v7)), (6, .int .i64 (i64 (n1 + 1)))] [(127, .arr 53 4 (List.map GEnrolment.lv v7))] rfl ?_ ?_
      · refine sN (oM (v := (.int _ _)) rfl ?_)
        refine sN (oAdd rfl rfl ?_)
        refine sN (oA (v := (.int _ _)) rfl ?_)
        exact s0 (Wk.to (eC rfl (eC rfl (eC rfl (eC rfl eN)))) (mC rfl mN) rfl (prK rfl))
      exact roundN (e' := Env.of [(0, .lst 4 (List.map GEnrolment.lv p0)), (1, .int .i64 p1), (5, .arr 127 (List.length v7)), (6, .int .i64 (i64 (n1 + 1)))]) (m' := Mem.of [(127, .arr 53 4 (List.map GEnrolment.lv v7))]) (Wk.to (eC rfl (eC rfl (eC rfl (eC rfl eN)))) (mC rfl mN) rfl (prK rfl)) ⟨(i64 (n1 + 1)), v7, hrec1 ▸ h, rfl, rfl⟩
    replace h := iteF h hc5
    refine LH.skip ?_
    refine blockN ?_
    refine thenN ?_
    refine LH.wk (Wk.to (el := [(0, .lst 4 (List.map GEnrolment.lv p0)), (1, .int .i64 p1), (5, .arr 127 (List.length l2)), (6, .int .i64 n1)]) (ml := [(127, .arr 53 4 (List.map GEnrolment.lv l2))]) (eC rfl (eC rfl (eC rfl (eC rfl eN)))) (mC rfl mN) rfl (prK rfl)) ?_
    refine LH.loneT [(0, .lst 4 (List.map GEnrolment.lv p0)), (1, .int .i64 p1), (5, .arr 127 (List.length l2)), (6, .int .i64 (i64 (n1 + 1)))] [(127, .arr 53 4 (List.map GEnrolment.lv l2))] rfl ?_ ?_
    · refine sN (oM (v := (.int _ _)) rfl ?_)
      refine sN (oAdd rfl rfl ?_)
      refine sN (oA (v := (.int _ _)) rfl ?_)
      exact s0 (Wk.to (eC rfl (eC rfl (eC rfl (eC rfl eN)))) (mC rfl mN) rfl (prK rfl))
    exact roundN (e' := Env.of [(0, .lst 4 (List.map GEnrolment.lv p0)), (1, .int .i64 p1), (5, .arr 127 (List.length l2)), (6, .int .i64 (i64 (n1 + 1)))]) (m' := Mem.of [(127, .arr 53 4 (List.map GEnrolment.lv l2))]) (Wk.to (eC rfl (eC rfl (eC rfl (eC rfl eN)))) (mC rfl mN) rfl (prK rfl)) ⟨(i64 (n1 + 1)), l2, hrec1 ▸ h, rfl, rfl⟩
  replace h := iteF h hc3
  refine LH.exit ?_
  refine thenX ?_
  refine roundX ?_
  refine blockH ?_
  refine thenN ?_
  refine LH.wk ((Wk.trans (Wk.to (el := [(5, .arr 127 (List.length l2))]) (ml := [(127, .arr 53 4 (List.map GEnrolment.lv l2))]) (eC rfl eN) (mC rfl mN) rfl (prK rfl)) (Wk.trans (Wk.frzL (f := GEnrolment.lv) (el' := [(5, .lst 4 (List.map GEnrolment.lv l2))]) 127 53 4 l2 rfl rfl (prN rfl) (fZ fN)) (Wk.to (el := [(5, .lst 4 (List.map GEnrolment.lv l2))]) (ml := []) (eC rfl eN) mN rfl (prK rfl))))) ?_
  refine LH.seqT [(4, .lst 4 (List.map GEnrolment.lv l2))] [] rfl ?_ ?_
  · refine sN (oM (v := (.lst _ _)) rfl ?_)
    refine sN (oA (v := (.lst _ _)) rfl ?_)
    exact s0 (Wk.to (eC rfl eN) mN rfl (prK rfl))
  refine LH.ret ?_
  obtain rfl := Option.some.inj h
  exact retE (congrArg Array.toList Try.results34) (lrT rfl (lr0 ⟨memN mN, rfl, prK rfl, Sub.rfl⟩))

theorem law13_EntryFinds_ok {F : Nat} {p0 : List GEnrolment} {p1 : List Int} {p2 : Int} {p3 : Int} {r : Bool} (h : law13_EntryFinds F p0 p1 p2 p3 = some r) : LCall Try.prog 9 [.lst 4 (List.map GEnrolment.lv p0), .lst 1 (List.map (LV.int .i64) p1), .int .i64 p2, .int .i64 p3] (Mem.of []) (.bool r) (Mem.of []) := by
  unfold law13_EntryFinds at h
  refine bodyT Try.func9 rfl (by rw [Try.ntmps9]; exact Nat.le_of_ble_eq_true rfl) ?_
  refine LH.wk (Wk.to (el := [(0, .lst 4 (List.map GEnrolment.lv p0)), (1, .lst 1 (List.map (LV.int .i64) p1)), (2, .int .i64 p2), (3, .int .i64 p3)]) (ml := []) (eC rfl (eC rfl (eC rfl (eC rfl eN)))) mN rfl (prK rfl)) ?_
  refine LH.seqT [(0, .lst 4 (List.map GEnrolment.lv p0)), (1, .lst 1 (List.map (LV.int .i64) p1)), (2, .int .i64 p2), (3, .int .i64 p3)] [] rfl ?_ ?_
  · refine sN (oA (v := (.bool _)) rfl ?_)
    exact s0 (Wk.to (eC rfl (eC rfl (eC rfl (eC rfl eN)))) mN rfl (prK rfl))
  refine LH.seq ?_
  refine LH.seqT [(0, .lst 4 (List.map GEnrolment.lv p0)), (1, .lst 1 (List.map (LV.int .i64) p1)), (2, .int .i64 p2), (3, .int .i64 p3), (24, .bool (decide ((p0.length : Int) > 40)))] [] rfl ?_ ?_
  · refine sN (oM (v := (.lst _ _)) rfl ?_)
    refine sN (oLnL (f := GEnrolment.lv) te44 rfl ?_)
    refine sN (oGt rfl rfl ?_)
    exact s0 (Wk.to (eC rfl (eC rfl (eC rfl (eC rfl (eC rfl eN))))) mN rfl (prK rfl))
  refine LH.cond (t := (decide ((p0.length : Int) > 40))) rfl (fun hc1 => ?_) (fun hc1 => ?_)
  · replace h := iteT h hc1
    refine LH.seqT [(8, .bool true)] [] rfl ?_ ?_
    · refine sN (oA (v := (.bool _)) rfl ?_)
      exact s0 (Wk.to (eC rfl eN) mN rfl (prK rfl))
    refine LH.ret ?_
    refine thenR ?_
    obtain rfl := Option.some.inj h
    exact retE (congrArg Array.toList Try.results9) (lrT rfl (lr0 ⟨memN mN, rfl, prK rfl, Sub.rfl⟩))
  replace h := iteF h hc1
  refine LH.skip ?_
  refine thenN ?_
  refine LH.wk (Wk.to (el := [(0, .lst 4 (List.map GEnrolment.lv p0)), (1, .lst 1 (List.map (LV.int .i64) p1)), (2, .int .i64 p2), (3, .int .i64 p3)]) (ml := []) (eC rfl (eC rfl (eC rfl (eC rfl eN)))) mN rfl (prK rfl)) ?_
  obtain ⟨r2, hr2, h⟩ := bindS h
  obtain ⟨r3, hr3, h⟩ := bindS h
  obtain ⟨r4, hr4, h⟩ := bindS h
  refine LH.seqT [(0, .lst 4 (List.map GEnrolment.lv p0)), (2, .int .i64 p2), (3, .int .i64 p3), (9, .lst 4 (List.map GEnrolment.lv r4.1))] [] rfl ?_ ?_
  · refine sN (oM (v := (.lst _ _)) rfl ?_)
    refine sN (oCM (args := [.lst 1 (List.map (LV.int .i64) p1)]) (ml := []) (ml' := [(7, .box [.lst 1 (List.map (LV.int .i64) r2.L), .int .i64 r2.At])]) rfl isF12 rfl (sbR sbN) (make_New_ok hr2) mN (newF rfl newN) rfl ?_)
    refine sN (oCM (args := [.ptr 7 0, .int .i64 10, .int .i64 0]) (ml := [(7, .box [.lst 1 (List.map (LV.int .i64) r2.L), .int .i64 r2.At])]) (ml' := [(7, .box [.lst 1 (List.map (LV.int .i64) r3.2.L), .int .i64 r3.2.At])]) rfl isF13 rfl (sbR (sbR (sbR sbN))) (GTape_EntryEvents_ok hr3) (mC rfl mN) (newI rfl newN) rfl ?_)
    refine sN (oBd (vs := [(0, .int .i64 20), (1, .int .i64 30)]) tu41 tz41 rfl (lf tf41_0 ts3 tk3 rfl rfl rfl (lf tf41_1 ts3 tk3 rfl rfl rfl lf0)) ?_)
    refine sN (oCP (args := [.lst 8 (List.map GEntryEvent.lv r3.1), .agg [.int .i64 20, .int .i64 30], .int .i64 30]) rfl isF22 rfl (sbR (sbR (sbR sbN))) (ref13_Fold_ok hr4) rfl ?_)
    refine sN (oM (v := (.tup _)) rfl ?_)
    refine sN (oEx rfl rfl ?_)
    refine sN (oEx rfl rfl ?_)
    refine sN (oEx rfl rfl ?_)
    refine sN (oA (v := (.lst _ _)) rfl ?_)
    refine sN (oA (v := (.lst _ _)) rfl ?_)
    refine sN (oA (v := (.int _ _)) rfl ?_)
    exact s0 (Wk.to (eC rfl (eC rfl (eC rfl (eC rfl eN)))) mN rfl (prK rfl))
  obtain ⟨r5, hr5, h⟩ := bindS h
  obtain ⟨r6, hr6, h⟩ := bindS h
  refine LH.seqT [(0, .lst 4 (List.map GEnrolment.lv p0)), (2, .int .i64 p2), (3, .int .i64 p3), (9, .lst 4 (List.map GEnrolment.lv r4.1)), (12, .int .i64 r5), (13, .int .i64 r6)] [] rfl ?_ ?_
  · refine sN (oM (v := (.int _ _)) rfl ?_)
    refine sN (oCP (args := [.int .i64 p2, .int .i64 5]) rfl isF26 rfl (sbR (sbR sbN)) (make_Cut_ok hr5) rfl ?_)
    refine sN (oM (v := (.int _ _)) rfl ?_)
    refine sN (oCP (args := [.int .i64 p3, .int .i64 3]) rfl isF26 rfl (sbR (sbR sbN)) (make_Cut_ok hr6) rfl ?_)
    refine sN (oA (v := (.int _ _)) rfl ?_)
    refine sN (oA (v := (.int _ _)) rfl ?_)
    exact s0 (Wk.to (eC rfl (eC rfl (eC rfl (eC rfl (eC rfl (eC rfl eN)))))) mN rfl (prK rfl))
  obtain ⟨r7, hr7, h⟩ := bindS h
  refine LH.seqT [(0, .lst 4 (List.map GEnrolment.lv p0)), (2, .int .i64 p2), (3, .int .i64 p3), (9, .lst 4 (List.map GEnrolment.lv r4.1)), (12, .int .i64 r5), (13, .int .i64 r6), (14, .sptr [.int .i64 r7.1.Entry.Candidate, .int .i64 r7.1.Entry.Centre, .int .i64 r7.1.Entry.Paper, .bool r7.1.Late]), (15, .bool r7.2)] [] rfl ?_ ?_
  · refine sN (oM (v := (.lst _ _)) rfl ?_)
    refine sN (oM (v := (.int _ _)) rfl ?_)
    refine sN (oM (v := (.int _ _)) rfl ?_)
    refine sN (oCP (args := [.lst 4 (List.map GEnrolment.lv p0), .int .i64 p2, .int .i64 p3]) rfl isF27 rfl (sbR (sbR (sbR sbN))) (entry_Find_ok hr7) rfl ?_)
    refine sN (oM (v := (.tup _)) rfl ?_)
    refine sN (oEx rfl rfl ?_)
    refine sN (oEx rfl rfl ?_)
    refine sN (oAl (id := 114) rfl tz53 rfl rfl ?_)
    refine s_ (oSt rfl rfl rfl tk53 ts53 rfl rfl rfl ?_)
    refine sN (oA (v := (.bool _)) rfl ?_)
    exact s0 ((Wk.trans (Wk.to (el := [(0, .lst 4 (List.map GEnrolment.lv p0)), (2, .int .i64 p2), (3, .int .i64 p3), (9, .lst 4 (List.map GEnrolment.lv r4.1)), (12, .int .i64 r5), (13, .int .i64 r6), (14, .ptr 114 0), (15, .bool r7.2)]) (ml := [(114, .box [.int .i64 r7.1.Entry.Candidate, .int .i64 r7.1.Entry.Centre, .int .i64 r7.1.Entry.Paper, .bool r7.1.Late])]) (eC rfl (eC rfl (eC rfl (eC rfl (eC rfl (eC rfl (eC rfl (eC rfl eN)))))))) (mC rfl mN) rfl (prK rfl)) (Wk.trans (Wk.frzB 114 [.int .i64 r7.1.Entry.Candidate, .int .i64 r7.1.Entry.Centre, .int .i64 r7.1.Entry.Paper, .bool r7.1.Late] rfl rfl rfl (prN rfl)) (Wk.to (eC rfl (eC rfl (eC rfl (eC rfl (eC rfl (eC rfl (eC rfl (eC rfl eN)))))))) mN rfl (prK rfl)))))
  obtain ⟨r8, hr8, h⟩ := bindS h
  refine LH.seqT [(0, .lst 4 (List.map GEnrolment.lv p0)), (3, .int .i64 p3), (9, .lst 4 (List.map GEnrolment.lv r4.1)), (12, .int .i64 r5), (13, .int .i64 r6), (14, .sptr [.int .i64 r7.1.Entry.Candidate, .int .i64 r7.1.Entry.Centre, .int .i64 r7.1.Entry.Paper, .bool r7.1.Late]), (15, .bool r7.2), (16, .sptr [.int .i64 r8.1.Entry.Candidate, .int .i64 r8.1.Entry.Centre, .int .i64 r8.1.Entry.Paper, .bool r8.1.Late]), (17, .bool r8.2)] [] rfl ?_ ?_
  · refine sN (oM (v := (.lst _ _)) rfl ?_)
    refine sN (oM (v := (.int _ _)) rfl ?_)
    refine sN (oM (v := (.int _ _)) rfl ?_)
    refine sN (oCP (args := [.lst 4 (List.map GEnrolment.lv p0), .int .i64 p2, .int .i64 p3]) rfl isF32 rfl (sbR (sbR (sbR sbN))) (ref13_Find_ok hr8) rfl ?_)
    refine sN (oM (v := (.tup _)) rfl ?_)
    refine sN (oEx rfl rfl ?_)
    refine sN (oEx rfl rfl ?_)
    refine sN (oAl (id := 116) rfl tz53 rfl rfl ?_)
    refine s_ (oSt rfl rfl rfl tk53 ts53 rfl rfl rfl ?_)
    refine sN (oA (v := (.bool _)) rfl ?_)
    exact s0 ((Wk.trans (Wk.to (el := [(0, .lst 4 (List.map GEnrolment.lv p0)), (3, .int .i64 p3), (9, .lst 4 (List.map GEnrolment.lv r4.1)), (12, .int .i64 r5), (13, .int .i64 r6), (14, .sptr [.int .i64 r7.1.Entry.Candidate, .int .i64 r7.1.Entry.Centre, .int .i64 r7.1.Entry.Paper, .bool r7.1.Late]), (15, .bool r7.2), (16, .ptr 116 0), (17, .bool r8.2)]) (ml := [(116, .box [.int .i64 r8.1.Entry.Candidate, .int .i64 r8.1.Entry.Centre, .int .i64 r8.1.Entry.Paper, .bool r8.1.Late])]) (eC rfl (eC rfl (eC rfl (eC rfl (eC rfl (eC rfl (eC rfl (eC rfl (eC rfl eN))))))))) (mC rfl mN) rfl (prK rfl)) (Wk.trans (Wk.frzB 116 [.int .i64 r8.1.Entry.Candidate, .int .i64 r8.1.Entry.Centre, .int .i64 r8.1.Entry.Paper, .bool r8.1.Late] rfl rfl rfl (prN rfl)) (Wk.to (eC rfl (eC rfl (eC rfl (eC rfl (eC rfl (eC rfl (eC rfl (eC rfl (eC rfl eN))))))))) mN rfl (prK rfl)))))
  obtain ⟨r9, hr9, h⟩ := bindS h
  refine LH.seqT [(0, .lst 4 (List.map GEnrolment.lv p0)), (3, .int .i64 p3), (9, .lst 4 (List.map GEnrolment.lv r4.1)), (12, .int .i64 r5), (13, .int .i64 r6), (14, .sptr [.int .i64 r7.1.Entry.Candidate, .int .i64 r7.1.Entry.Centre, .int .i64 r7.1.Entry.Paper, .bool r7.1.Late]), (15, .bool r7.2), (16, .sptr [.int .i64 r8.1.Entry.Candidate, .int .i64 r8.1.Entry.Centre, .int .i64 r8.1.Entry.Paper, .bool r8.1.Late]), (17, .bool r8.2), (18, .sptr [.int .i64 r9.1.Entry.Candidate, .int .i64 r9.1.Entry.Centre, .int .i64 r9.1.Entry.Paper, .bool r9.1.Late]), (19, .bool r9.2)] [] rfl ?_ ?_
  · refine sN (oM (v := (.lst _ _)) rfl ?_)
    refine sN (oM (v := (.int _ _)) rfl ?_)
    refine sN (oM (v := (.int _ _)) rfl ?_)
    refine sN (oCP (args := [.lst 4 (List.map GEnrolment.lv r4.1), .int .i64 r5, .int .i64 r6]) rfl isF27 rfl (sbR (sbR (sbR sbN))) (entry_Find_ok hr9) rfl ?_)
    refine sN (oM (v := (.tup _)) rfl ?_)
    refine sN (oEx rfl rfl ?_)
    refine sN (oEx rfl rfl ?_)
    refine sN (oAl (id := 118) rfl tz53 rfl rfl ?_)
    refine s_ (oSt rfl rfl rfl tk53 ts53 rfl rfl rfl ?_)
    refine sN (oA (v := (.bool _)) rfl ?_)
    exact s0 ((Wk.trans (Wk.to (el := [(0, .lst 4 (List.map GEnrolment.lv p0)), (3, .int .i64 p3), (9, .lst 4 (List.map GEnrolment.lv r4.1)), (12, .int .i64 r5), (13, .int .i64 r6), (14, .sptr [.int .i64 r7.1.Entry.Candidate, .int .i64 r7.1.Entry.Centre, .int .i64 r7.1.Entry.Paper, .bool r7.1.Late]), (15, .bool r7.2), (16, .sptr [.int .i64 r8.1.Entry.Candidate, .int .i64 r8.1.Entry.Centre, .int .i64 r8.1.Entry.Paper, .bool r8.1.Late]), (17, .bool r8.2), (18, .ptr 118 0), (19, .bool r9.2)]) (ml := [(118, .box [.int .i64 r9.1.Entry.Candidate, .int .i64 r9.1.Entry.Centre, .int .i64 r9.1.Entry.Paper, .bool r9.1.Late])]) (eC rfl (eC rfl (eC rfl (eC rfl (eC rfl (eC rfl (eC rfl (eC rfl (eC rfl (eC rfl (eC rfl eN))))))))))) (mC rfl mN) rfl (prK rfl)) (Wk.trans (Wk.frzB 118 [.int .i64 r9.1.Entry.Candidate, .int .i64 r9.1.Entry.Centre, .int .i64 r9.1.Entry.Paper, .bool r9.1.Late] rfl rfl rfl (prN rfl)) (Wk.to (eC rfl (eC rfl (eC rfl (eC rfl (eC rfl (eC rfl (eC rfl (eC rfl (eC rfl (eC rfl (eC rfl eN))))))))))) mN rfl (prK rfl)))))
  obtain ⟨r10, hr10, h⟩ := bindS h
  refine LH.seqT [(0, .lst 4 (List.map GEnrolment.lv p0)), (3, .int .i64 p3), (9, .lst 4 (List.map GEnrolment.lv r4.1)), (13, .int .i64 r6), (14, .sptr [.int .i64 r7.1.Entry.Candidate, .int .i64 r7.1.Entry.Centre, .int .i64 r7.1.Entry.Paper, .bool r7.1.Late]), (15, .bool r7.2), (16, .sptr [.int .i64 r8.1.Entry.Candidate, .int .i64 r8.1.Entry.Centre, .int .i64 r8.1.Entry.Paper, .bool r8.1.Late]), (17, .bool r8.2), (18, .sptr [.int .i64 r9.1.Entry.Candidate, .int .i64 r9.1.Entry.Centre, .int .i64 r9.1.Entry.Paper, .bool r9.1.Late]), (19, .bool r9.2), (20, .sptr [.int .i64 r10.1.Entry.Candidate, .int .i64 r10.1.Entry.Centre, .int .i64 r10.1.Entry.Paper, .bool r10.1.Late]), (21, .bool r10.2)] [] rfl ?_ ?_
  · refine sN (oM (v := (.lst _ _)) rfl ?_)
    refine sN (oM (v := (.int _ _)) rfl ?_)
    refine sN (oM (v := (.int _ _)) rfl ?_)
    refine sN (oCP (args := [.lst 4 (List.map GEnrolment.lv r4.1), .int .i64 r5, .int .i64 r6]) rfl isF32 rfl (sbR (sbR (sbR sbN))) (ref13_Find_ok hr10) rfl ?_)
    refine sN (oM (v := (.tup _)) rfl ?_)
    refine sN (oEx rfl rfl ?_)
    refine sN (oEx rfl rfl ?_)
    refine sN (oAl (id := 120) rfl tz53 rfl rfl ?_)
    refine s_ (oSt rfl rfl rfl tk53 ts53 rfl rfl rfl ?_)
    refine sN (oA (v := (.bool _)) rfl ?_)
    exact s0 ((Wk.trans (Wk.to (el := [(0, .lst 4 (List.map GEnrolment.lv p0)), (3, .int .i64 p3), (9, .lst 4 (List.map GEnrolment.lv r4.1)), (13, .int .i64 r6), (14, .sptr [.int .i64 r7.1.Entry.Candidate, .int .i64 r7.1.Entry.Centre, .int .i64 r7.1.Entry.Paper, .bool r7.1.Late]), (15, .bool r7.2), (16, .sptr [.int .i64 r8.1.Entry.Candidate, .int .i64 r8.1.Entry.Centre, .int .i64 r8.1.Entry.Paper, .bool r8.1.Late]), (17, .bool r8.2), (18, .sptr [.int .i64 r9.1.Entry.Candidate, .int .i64 r9.1.Entry.Centre, .int .i64 r9.1.Entry.Paper, .bool r9.1.Late]), (19, .bool r9.2), (20, .ptr 120 0), (21, .bool r10.2)]) (ml := [(120, .box [.int .i64 r10.1.Entry.Candidate, .int .i64 r10.1.Entry.Centre, .int .i64 r10.1.Entry.Paper, .bool r10.1.Late])]) (eC rfl (eC rfl (eC rfl (eC rfl (eC rfl (eC rfl (eC rfl (eC rfl (eC rfl (eC rfl (eC rfl (eC rfl eN)))))))))))) (mC rfl mN) rfl (prK rfl)) (Wk.trans (Wk.frzB 120 [.int .i64 r10.1.Entry.Candidate, .int .i64 r10.1.Entry.Centre, .int .i64 r10.1.Entry.Paper, .bool r10.1.Late] rfl rfl rfl (prN rfl)) (Wk.to (eC rfl (eC rfl (eC rfl (eC rfl (eC rfl (eC rfl (eC rfl (eC rfl (eC rfl (eC rfl (eC rfl (eC rfl eN)))))))))))) mN rfl (prK rfl)))))
  obtain ⟨w12, hv, h⟩ := bindS h
  refine LH.seqT [(8, .bool w12)] [] rfl ?_ ?_
  · refine sN (oLdA rfl tk53 ta53 ts53 rfl rfl ?_)
    refine sN (oLdA rfl tk53 ta53 ts53 rfl rfl ?_)
    refine sN (oEqA rfl rfl (ae53 r7.1 r8.1) ?_)
    refine sN (oM (v := (.bool _)) rfl ?_)
    by_cases hb13 : (decide (r7.1 = r8.1)) = true
    · replace hv := iteT hv hb13
      refine sT rfl (congrArg LV.bool hb13) (oM (v := (.bool _)) rfl ?_)
      refine sT rfl (congrArg LV.bool hb13) (oM (v := (.bool _)) rfl ?_)
      refine sT rfl (congrArg LV.bool hb13) (oEqB rfl rfl tb4 ?_)
      refine sN (oPkT (congrArg LV.bool hb13) (v := (.bool _)) rfl ?_)
      refine sN (oM (v := (.bool _)) rfl ?_)
      by_cases hb14 : (r7.2 == r8.2) = true
      · replace hv := iteT hv hb14
        refine sT rfl (congrArg LV.bool hb14) (oLdA rfl tk53 ta53 ts53 rfl rfl ?_)
        refine sT rfl (congrArg LV.bool hb14) (oLdA rfl tk53 ta53 ts53 rfl rfl ?_)
        refine sT rfl (congrArg LV.bool hb14) (oEqA rfl rfl (ae53 r9.1 r10.1) ?_)
        refine sN (oPkT (congrArg LV.bool hb14) (v := (.bool _)) rfl ?_)
        refine sN (oM (v := (.bool _)) rfl ?_)
        by_cases hb15 : (decide (r9.1 = r10.1)) = true
        · replace hv := iteT hv hb15
          refine sT rfl (congrArg LV.bool hb15) (oM (v := (.bool _)) rfl ?_)
          refine sT rfl (congrArg LV.bool hb15) (oM (v := (.bool _)) rfl ?_)
          refine sT rfl (congrArg LV.bool hb15) (oEqB rfl rfl tb4 ?_)
          refine sN (oPkT (congrArg LV.bool hb15) (v := (.bool _)) rfl ?_)
          refine sN (oM (v := (.bool _)) rfl ?_)
          by_cases hb16 : (r9.2 == r10.2) = true
          · replace hv := iteT hv hb16
            refine sT rfl (congrArg LV.bool hb16) (oM (v := (.lst _ _)) rfl ?_)
            refine sT rfl (congrArg LV.bool hb16) (oM (v := (.int _ _)) rfl ?_)
            obtain ⟨r17, hr17, hv⟩ := bindS hv
            refine sT rfl (congrArg LV.bool hb16) (oCP (args := [.lst 4 (List.map GEnrolment.lv p0), .int .i64 p3]) rfl isF33 rfl (sbR (sbR sbN)) (entry_Paper_ok hr17) rfl ?_)
            refine sT rfl (congrArg LV.bool hb16) (oM (v := (.lst _ _)) rfl ?_)
            refine sT rfl (congrArg LV.bool hb16) (oM (v := (.int _ _)) rfl ?_)
            obtain ⟨r18, hr18, hv⟩ := bindS hv
            refine sT rfl (congrArg LV.bool hb16) (oCP (args := [.lst 4 (List.map GEnrolment.lv p0), .int .i64 p3]) rfl isF34 rfl (sbR (sbR sbN)) (ref13_Paper_ok hr18) rfl ?_)
            obtain ⟨r19, hr19, hv⟩ := bindS hv
            refine sT rfl (congrArg LV.bool hb16) (oCP (args := [.lst 4 (List.map GEnrolment.lv r17), .lst 4 (List.map GEnrolment.lv r18)]) rfl isF23 rfl (sbR (sbR sbN)) (law13_same_ok hr19) rfl ?_)
            refine sN (oPkT (congrArg LV.bool hb16) (v := (.bool _)) rfl ?_)
            refine sN (oM (v := (.bool _)) rfl ?_)
            by_cases hb20 : r19 = true
            · replace hv := iteT hv hb20
              refine sT rfl (congrArg LV.bool hb20) (oM (v := (.lst _ _)) rfl ?_)
              refine sT rfl (congrArg LV.bool hb20) (oM (v := (.int _ _)) rfl ?_)
              obtain ⟨r21, hr21, hv⟩ := bindS hv
              refine sT rfl (congrArg LV.bool hb20) (oCP (args := [.lst 4 (List.map GEnrolment.lv r4.1), .int .i64 r6]) rfl isF33 rfl (sbR (sbR sbN)) (entry_Paper_ok hr21) rfl ?_)
              refine sT rfl (congrArg LV.bool hb20) (oM (v := (.lst _ _)) rfl ?_)
              refine sT rfl (congrArg LV.bool hb20) (oM (v := (.int _ _)) rfl ?_)
              obtain ⟨r22, hr22, hv⟩ := bindS hv
              refine sT rfl (congrArg LV.bool hb20) (oCP (args := [.lst 4 (List.map GEnrolment.lv r4.1), .int .i64 r6]) rfl isF34 rfl (sbR (sbR sbN)) (ref13_Paper_ok hr22) rfl ?_)
              obtain ⟨r23, hr23, hv⟩ := bindS hv
              refine sT rfl (congrArg LV.bool hb20) (oCP (args := [.lst 4 (List.map GEnrolment.lv r21), .lst 4 (List.map GEnrolment.lv r22)]) rfl isF23 rfl (sbR (sbR sbN)) (law13_same_ok hr23) rfl ?_)
              refine sN (oPkT (congrArg LV.bool hb20) (v := (.bool _)) rfl ?_)
              refine sN (oM (v := (.bool _)) rfl ?_)
              by_cases hb24 : r23 = true
              · replace hv := iteT hv hb24
                obtain ⟨r25, hr25, hv⟩ := bindS hv
                refine sT rfl (congrArg LV.bool hb24) (oCP (args := []) rfl isF18 rfl sbN (law13_awake_ok hr25) rfl ?_)
                refine sN (oPkT (congrArg LV.bool hb24) (v := (.bool _)) rfl ?_)
                refine sN (oA (v := (.bool _)) rfl ?_)
                obtain rfl := Option.some.inj hv
                exact s0 (Wk.to (eC rfl eN) mN rfl (prK rfl))
              · replace hb24 := bF hb24
                replace hv := iteF hv hb24
                refine sF rfl rfl hb24 ?_
                refine sN (oPkF (congrArg LV.bool hb24) (v := (.bool _)) rfl ?_)
                refine sN (oA (v := (.bool _)) rfl ?_)
                obtain rfl := Option.some.inj hv
                exact s0 (Wk.to (eC rfl eN) mN rfl (prK rfl))
            · replace hb20 := bF hb20
              replace hv := iteF hv hb20
              refine sF rfl rfl hb20 ?_
              refine sF rfl rfl hb20 ?_
              refine sF rfl rfl hb20 ?_
              refine sF rfl rfl hb20 ?_
              refine sF rfl rfl hb20 ?_
              refine sF rfl rfl hb20 ?_
              refine sF rfl rfl hb20 ?_
              refine sN (oPkF (congrArg LV.bool hb20) (v := (.bool _)) rfl ?_)
              refine sN (oM (v := (.bool _)) rfl ?_)
              refine sF rfl rfl rfl ?_
              refine sN (oPkF rfl (v := (.bool _)) rfl ?_)
              refine sN (oA (v := (.bool _)) rfl ?_)
              obtain rfl := Option.some.inj hv
              exact s0 (Wk.to (eC rfl eN) mN rfl (prK rfl))
          · replace hb16 := bF hb16
            replace hv := iteF hv hb16
            refine sF rfl rfl hb16 ?_
            refine sF rfl rfl hb16 ?_
            refine sF rfl rfl hb16 ?_
            refine sF rfl rfl hb16 ?_
            refine sF rfl rfl hb16 ?_
            refine sF rfl rfl hb16 ?_
            refine sF rfl rfl hb16 ?_
            refine sN (oPkF (congrArg LV.bool hb16) (v := (.bool _)) rfl ?_)
            refine sN (oM (v := (.bool _)) rfl ?_)
            refine sF rfl rfl rfl ?_
            refine sF rfl rfl rfl ?_
            refine sF rfl rfl rfl ?_
            refine sF rfl rfl rfl ?_
            refine sF rfl rfl rfl ?_
            refine sF rfl rfl rfl ?_
            refine sF rfl rfl rfl ?_
            refine sN (oPkF rfl (v := (.bool _)) rfl ?_)
            refine sN (oM (v := (.bool _)) rfl ?_)
            refine sF rfl rfl rfl ?_
            refine sN (oPkF rfl (v := (.bool _)) rfl ?_)
            refine sN (oA (v := (.bool _)) rfl ?_)
            obtain rfl := Option.some.inj hv
            exact s0 (Wk.to (eC rfl eN) mN rfl (prK rfl))
        · replace hb15 := bF hb15
          replace hv := iteF hv hb15
          refine sF rfl rfl hb15 ?_
          refine sF rfl rfl hb15 ?_
          refine sF rfl rfl hb15 ?_
          refine sN (oPkF (congrArg LV.bool hb15) (v := (.bool _)) rfl ?_)
          refine sN (oM (v := (.bool _)) rfl ?_)
          refine sF rfl rfl rfl ?_
          refine sF rfl rfl rfl ?_
          refine sF rfl rfl rfl ?_
          refine sF rfl rfl rfl ?_
          refine sF rfl rfl rfl ?_
          refine sF rfl rfl rfl ?_
          refine sF rfl rfl rfl ?_
          refine sN (oPkF rfl (v := (.bool _)) rfl ?_)
          refine sN (oM (v := (.bool _)) rfl ?_)
          refine sF rfl rfl rfl ?_
          refine sF rfl rfl rfl ?_
          refine sF rfl rfl rfl ?_
          refine sF rfl rfl rfl ?_
          refine sF rfl rfl rfl ?_
          refine sF rfl rfl rfl ?_
          refine sF rfl rfl rfl ?_
          refine sN (oPkF rfl (v := (.bool _)) rfl ?_)
          refine sN (oM (v := (.bool _)) rfl ?_)
          refine sF rfl rfl rfl ?_
          refine sN (oPkF rfl (v := (.bool _)) rfl ?_)
          refine sN (oA (v := (.bool _)) rfl ?_)
          obtain rfl := Option.some.inj hv
          exact s0 (Wk.to (eC rfl eN) mN rfl (prK rfl))
      · replace hb14 := bF hb14
        replace hv := iteF hv hb14
        refine sF rfl rfl hb14 ?_
        refine sF rfl rfl hb14 ?_
        refine sF rfl rfl hb14 ?_
        refine sN (oPkF (congrArg LV.bool hb14) (v := (.bool _)) rfl ?_)
        refine sN (oM (v := (.bool _)) rfl ?_)
        refine sF rfl rfl rfl ?_
        refine sF rfl rfl rfl ?_
        refine sF rfl rfl rfl ?_
        refine sN (oPkF rfl (v := (.bool _)) rfl ?_)
        refine sN (oM (v := (.bool _)) rfl ?_)
        refine sF rfl rfl rfl ?_
        refine sF rfl rfl rfl ?_
        refine sF rfl rfl rfl ?_
        refine sF rfl rfl rfl ?_
        refine sF rfl rfl rfl ?_
        refine sF rfl rfl rfl ?_
        refine sF rfl rfl rfl ?_
        refine sN (oPkF rfl (v := (.bool _)) rfl ?_)
        refine sN (oM (v := (.bool _)) rfl ?_)
        refine sF rfl rfl rfl ?_
        refine sF rfl rfl rfl ?_
        refine sF rfl rfl rfl ?_
        refine sF rfl rfl rfl ?_
        refine sF rfl rfl rfl ?_
        refine sF rfl rfl rfl ?_
        refine sF rfl rfl rfl ?_
        refine sN (oPkF rfl (v := (.bool _)) rfl ?_)
        refine sN (oM (v := (.bool _)) rfl ?_)
        refine sF rfl rfl rfl ?_
        refine sN (oPkF rfl (v := (.bool _)) rfl ?_)
        refine sN (oA (v := (.bool _)) rfl ?_)
        obtain rfl := Option.some.inj hv
        exact s0 (Wk.to (eC rfl eN) mN rfl (prK rfl))
    · replace hb13 := bF hb13
      replace hv := iteF hv hb13
      refine sF rfl rfl hb13 ?_
      refine sF rfl rfl hb13 ?_
      refine sF rfl rfl hb13 ?_
      refine sN (oPkF (congrArg LV.bool hb13) (v := (.bool _)) rfl ?_)
      refine sN (oM (v := (.bool _)) rfl ?_)
      refine sF rfl rfl rfl ?_
      refine sF rfl rfl rfl ?_
      refine sF rfl rfl rfl ?_
      refine sN (oPkF rfl (v := (.bool _)) rfl ?_)
      refine sN (oM (v := (.bool _)) rfl ?_)
      refine sF rfl rfl rfl ?_
      refine sF rfl rfl rfl ?_
      refine sF rfl rfl rfl ?_
      refine sN (oPkF rfl (v := (.bool _)) rfl ?_)
      refine sN (oM (v := (.bool _)) rfl ?_)
      refine sF rfl rfl rfl ?_
      refine sF rfl rfl rfl ?_
      refine sF rfl rfl rfl ?_
      refine sF rfl rfl rfl ?_
      refine sF rfl rfl rfl ?_
      refine sF rfl rfl rfl ?_
      refine sF rfl rfl rfl ?_
      refine sN (oPkF rfl (v := (.bool _)) rfl ?_)
      refine sN (oM (v := (.bool _)) rfl ?_)
      refine sF rfl rfl rfl ?_
      refine sF rfl rfl rfl ?_
      refine sF rfl rfl rfl ?_
      refine sF rfl rfl rfl ?_
      refine sF rfl rfl rfl ?_
      refine sF rfl rfl rfl ?_
      refine sF rfl rfl rfl ?_
      refine sN (oPkF rfl (v := (.bool _)) rfl ?_)
      refine sN (oM (v := (.bool _)) rfl ?_)
      refine sF rfl rfl rfl ?_
      refine sN (oPkF rfl (v := (.bool _)) rfl ?_)
      refine sN (oA (v := (.bool _)) rfl ?_)
      obtain rfl := Option.some.inj hv
      exact s0 (Wk.to (eC rfl eN) mN rfl (prK rfl))
  clear hv
  refine LH.ret ?_
  obtain rfl := Option.some.inj h
  exact retE (congrArg Array.toList Try.results9) (lrT rfl (lr0 ⟨memN mN, rfl, prK rfl, Sub.rfl⟩))

end Go.Proofs.Ytkkhmngmhckgbaa
