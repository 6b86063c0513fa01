/- Walks, printed by program (gen.py): each function computes its plain function. -/
import Derived.Test.YtdkhlkihhdjbbaaW1
set_option linter.unusedVariables false
set_option linter.unusedSimpArgs false
set_option maxRecDepth 100000
namespace Go.Proofs.Ytdkhlkihhdjbbaa
open Go.L Go.Sh
theorem stamp_groups_ok {F : Nat} {p0 : List GStamp} {p1 : List Int} {r : List stamp_group} (h : stamp_groups F p0 p1 = some r) : LCall Try.prog 37 [.lst 3 (List.map GStamp.lv p0), .lst 1 (List.map (LV.int .i64) p1)] (Mem.of []) (.lst 2 (List.map stamp_group.lv r)) (Mem.of []) := by
  unfold stamp_groups at h
  refine bodyT Try.func37 rfl (by rw [Try.ntmps37]; exact Nat.le_of_ble_eq_true rfl) ?_
  refine LH.wk (Wk.to (el := [(0, .lst 3 (List.map GStamp.lv p0)), (1, .lst 1 (List.map (LV.int .i64) p1))]) (ml := []) (eC rfl (eC rfl eN)) mN rfl (prK rfl)) ?_
  refine LH.seqT [(1, .lst 1 (List.map (LV.int .i64) p1)), (2, .sptr [.lst 3 (List.map GStamp.lv p0)])] [] rfl ?_ ?_
  · refine sB (oBxR rfl rfl rfl rfl rfl ?_)
    refine sN (oA (v := .nil) rfl ?_)
    exact s0 (Wk.to (eC rfl (eC rfl eN)) mN rfl (prK rfl))
  refine LH.seqT [(1, .lst 1 (List.map (LV.int .i64) p1)), (2, .sptr [.lst 3 (List.map GStamp.lv p0)]), (5, .nil)] [] rfl ?_ ?_
  · refine sN (oA (v := .nil) rfl ?_)
    exact s0 (Wk.to (eC rfl (eC rfl (eC rfl eN))) mN rfl (prK rfl))
  refine LH.seq ?_
  refine LH.seqT [(1, .lst 1 (List.map (LV.int .i64) p1)), (2, .sptr [.lst 3 (List.map GStamp.lv p0)]), (5, .nil), (13, .lst 3 (List.map GStamp.lv p0)), (14, .int .i64 (p0.length : Int)), (15, .int .i64 0)] [] rfl ?_ ?_
  · refine sN (oLd rfl tk31 ta31 ?_)
    refine sN (oLnL (f := GStamp.lv) te31 rfl ?_)
    refine sN (oM (v := (.int _ _)) rfl ?_)
    exact s0 (Wk.to (eC rfl (eC rfl (eC rfl (eC rfl (eC rfl (eC rfl eN)))))) mN rfl (prK rfl))
  refine LH.block ?_
  refine LH.wk ((Wk.trans (Wk.to (el := [(1, .lst 1 (List.map (LV.int .i64) p1)), (2, .sptr [.lst 3 (List.map GStamp.lv p0)]), (5, .nil), (13, .lst 3 (List.map GStamp.lv p0)), (14, .int .i64 (p0.length : Int)), (15, .int .i64 0)]) (ml := []) (eC rfl (eC rfl (eC rfl (eC rfl (eC rfl (eC rfl eN)))))) mN rfl (prK rfl)) (Wk.trans (Wk.to (el := [(1, .lst 1 (List.map (LV.int .i64) p1)), (2, .sptr [.lst 3 (List.map GStamp.lv p0)]), (5, .nil), (13, .lst 3 (List.map GStamp.lv p0)), (14, .int .i64 (p0.length : Int)), (15, .int .i64 0)]) (ml := []) (eC rfl (eC rfl (eC rfl (eC rfl (eC rfl (eC rfl eN)))))) mN rfl (prK rfl)) (Wk.trans (Wk.ownL (el' := [(1, .lst 1 (List.map (LV.int .i64) p1)), (2, .sptr [.lst 3 (List.map GStamp.lv p0)]), (5, .arr 125 (List.length ([] : List Int))), (13, .lst 3 (List.map GStamp.lv p0)), (14, .int .i64 (p0.length : Int)), (15, .int .i64 0)]) 125 3 1 rfl rfl (wK (wK (wO (wK (wK (wK wN))))))) (Wk.to (el := [(1, .lst 1 (List.map (LV.int .i64) p1)), (2, .sptr [.lst 3 (List.map GStamp.lv p0)]), (5, .arr 125 (List.length ([] : List Int))), (13, .lst 3 (List.map GStamp.lv p0)), (14, .int .i64 (p0.length : Int)), (15, .int .i64 0)]) (ml := [(125, .arr 3 1 (List.map (LV.int .i64) ([] : List Int)))]) (eC rfl (eC rfl (eC rfl (eC rfl (eC rfl (eC rfl eN)))))) (mC rfl mN) rfl (prK rfl)))))) ?_
  refine LH.loop (fun n e m => ∃ (n1 : Int) (l2 : List Int), stamp_groups_L1 F p0 p1 n n1 l2 = some r ∧ e = Env.of [(1, .lst 1 (List.map (LV.int .i64) p1)), (2, .sptr [.lst 3 (List.map GStamp.lv p0)]), (5, .arr 125 (List.length l2)), (13, .lst 3 (List.map GStamp.lv p0)), (14, .int .i64 (p0.length : Int)), (15, .int .i64 n1)] ∧ m = Mem.of [(125, .arr 3 1 (List.map (LV.int .i64) l2))]) F ⟨0, ([] : List Int), h, rfl, rfl⟩ ?_
  clear h
  rintro n e m ⟨n1, l2, h, rfl, rfl⟩
  rcases n with _ | n
  · cases (show Option.none = some _ from h)
  obtain ⟨rec1, hrec1⟩ : ∃ f, f = stamp_groups_L1 F p0 p1 n := ⟨_, rfl⟩
  replace h : stamp_groups_L1_B F p0 p1 rec1 n1 l2 = some r := hrec1 ▸ h
  unfold stamp_groups_L1_B at h
  refine LH.seqT [(1, .lst 1 (List.map (LV.int .i64) p1)), (2, .sptr [.lst 3 (List.map GStamp.lv p0)]), (5, .arr 125 (List.length l2)), (13, .lst 3 (List.map GStamp.lv p0)), (14, .int .i64 (p0.length : Int)), (15, .int .i64 n1), (16, .bool (decide (n1 < (p0.length : Int))))] [(125, .arr 3 1 (List.map (LV.int .i64) l2))] rfl ?_ ?_
  · refine sN (oLt rfl rfl ?_)
    exact s0 (Wk.to (eC rfl (eC rfl (eC rfl (eC rfl (eC rfl (eC rfl (eC rfl eN))))))) (mC rfl mN) rfl (prK rfl))
  refine LH.seq ?_
  refine LH.cond (t := (decide (n1 < (p0.length : Int)))) rfl (fun hc3 => ?_) (fun hc3 => ?_)
  · replace h := iteT h hc3
    refine LH.skip ?_
    refine thenN ?_
    refine LH.wk (Wk.to (el := [(1, .lst 1 (List.map (LV.int .i64) p1)), (2, .sptr [.lst 3 (List.map GStamp.lv p0)]), (5, .arr 125 (List.length l2)), (13, .lst 3 (List.map GStamp.lv p0)), (14, .int .i64 (p0.length : Int)), (15, .int .i64 n1)]) (ml := [(125, .arr 3 1 (List.map (LV.int .i64) l2))]) (eC rfl (eC rfl (eC rfl (eC rfl (eC rfl (eC rfl eN)))))) (mC rfl mN) rfl (prK rfl)) ?_
    refine LH.seq ?_
    refine LH.block ?_
    obtain ⟨x4, hx4, h⟩ := bindS h
    refine LH.seqT [(1, .lst 1 (List.map (LV.int .i64) p1)), (2, .sptr [.lst 3 (List.map GStamp.lv p0)]), (5, .arr 125 (List.length l2)), (6, .int .i64 n1), (7, .sptr [.int .i64 x4.Time, .int .i64 x4.Source, .int .i64 x4.Seq]), (13, .lst 3 (List.map GStamp.lv p0)), (14, .int .i64 (p0.length : Int)), (15, .int .i64 n1)] [(125, .arr 3 1 (List.map (LV.int .i64) l2))] rfl ?_ ?_
    · refine sN (oM (v := (.int _ _)) rfl ?_)
      refine sN (oIx (f := GStamp.lv) te31 tk23 ts23 rfl rfl GStamp.ok hx4 rfl ?_)
      refine sN (oLdA rfl tk23 ta23 ts23 rfl rfl ?_)
      refine sN (oAl (id := 107) rfl tz23 rfl rfl ?_)
      refine sN (oA (v := (.int _ _)) rfl ?_)
      refine s_ (oSt rfl rfl rfl tk23 ts23 rfl rfl rfl ?_)
      exact s0 ((Wk.trans (Wk.to (el := [(1, .lst 1 (List.map (LV.int .i64) p1)), (2, .sptr [.lst 3 (List.map GStamp.lv p0)]), (5, .arr 125 (List.length l2)), (6, .int .i64 n1), (7, .ptr 107 0), (13, .lst 3 (List.map GStamp.lv p0)), (14, .int .i64 (p0.length : Int)), (15, .int .i64 n1)]) (ml := [(107, .box [.int .i64 x4.Time, .int .i64 x4.Source, .int .i64 x4.Seq]), (125, .arr 3 1 (List.map (LV.int .i64) l2))]) (eC rfl (eC rfl (eC rfl (eC rfl (eC rfl (eC rfl (eC rfl (eC rfl eN)))))))) (mC rfl (mC rfl mN)) rfl (prK rfl)) (Wk.trans (Wk.frzB 107 [.int .i64 x4.Time, .int .i64 x4.Source, .int .i64 x4.Seq] rfl rfl rfl (prN rfl)) (Wk.to (eC rfl (eC rfl (eC rfl (eC rfl (eC rfl (eC rfl (eC rfl (eC rfl eN)))))))) (mC rfl mN) rfl (prK rfl)))))
    obtain ⟨r5, hr5, h⟩ := bindS h
    refine LH.seqT [(1, .lst 1 (List.map (LV.int .i64) p1)), (2, .sptr [.lst 3 (List.map GStamp.lv p0)]), (5, .arr 125 (List.length l2)), (6, .int .i64 n1), (13, .lst 3 (List.map GStamp.lv p0)), (14, .int .i64 (p0.length : Int)), (15, .int .i64 n1), (21, .bool r5)] [(125, .arr 3 1 (List.map (LV.int .i64) l2))] rfl ?_ ?_
    · refine sN (oLdA rfl tk23 ta23 ts23 rfl rfl ?_)
      refine sN (oCP (args := [.agg [.int .i64 x4.Time, .int .i64 x4.Source, .int .i64 x4.Seq]]) rfl isF12 rfl (sbR sbN) (stamp_Valid_ok hr5) rfl ?_)
      exact s0 (Wk.to (eC rfl (eC rfl (eC rfl (eC rfl (eC rfl (eC rfl (eC rfl (eC rfl eN)))))))) (mC rfl mN) rfl (prK rfl))
    refine LH.cond (t := r5) rfl (fun hc6 => ?_) (fun hc6 => ?_)
    · replace h := iteT h hc6
      obtain ⟨v7, hv7, h⟩ := bindS h
      refine LH.loneT [(1, .lst 1 (List.map (LV.int .i64) p1)), (2, .sptr [.lst 3 (List.map GStamp.lv p0)]), (5, .arr 125 (List.length v7)), (13, .lst 3 (List.map GStamp.lv p0)), (14, .int .i64 (p0.length : Int)), (15, .int .i64 n1)] [(125, .arr 3 1 (List.map (LV.int .i64) v7))] rfl ?_ ?_
      · refine sN (oM (v := (.arr _ _)) rfl ?_)
        refine sN (oM (v := (.int _ _)) rfl ?_)
        refine sN (oBS (f := (LV.int .i64)) (ys := [n1]) te28 tr3 ts3 rfl rfl rfl okI ?_)
        refine sN (oAp (f := (LV.int .i64)) te28 tr3 ts3 rfl rfl (prN rfl) rfl hv7 ?_)
        refine sN (oA (v := (.arr _ _)) rfl ?_)
        exact s0 (Wk.to (eC rfl (eC rfl (eC rfl (eC rfl (eC rfl (eC rfl eN)))))) (mC rfl mN) rfl (prK rfl))
      refine blockN ?_
      refine thenN ?_
      refine LH.loneT [(1, .lst 1 (List.map (LV.int .i64) p1)), (2, .sptr [.lst 3 (List.map GStamp.lv p0)]), (5, .arr 125 (List.length v7)), (13, .lst 3 (List.map GStamp.lv p0)), (14, .int .i64 (p0.length : Int)), (15, .int .i64 (i64 (n1 + 1)))] [(125, .arr 3 1 (List.map (LV.int .i64) v7))] rfl ?_ ?_
      · refine sN (oAdd rfl rfl ?_)
        refine sN (oM (v := (.int _ _)) rfl ?_)
        exact s0 (Wk.to (eC rfl (eC rfl (eC rfl (eC rfl (eC rfl (eC rfl eN)))))) (mC rfl mN) rfl (prK rfl))
      exact roundN (e' := Env.of [(1, .lst 1 (List.map (LV.int .i64) p1)), (2, .sptr [.lst 3 (List.map GStamp.lv p0)]), (5, .arr 125 (List.length v7)), (13, .lst 3 (List.map GStamp.lv p0)), (14, .int .i64 (p0.length : Int)), (15, .int .i64 (i64 (n1 + 1)))]) (m' := Mem.of [(125, .arr 3 1 (List.map (LV.int .i64) v7))]) (Wk.to (eC rfl (eC rfl (eC rfl (eC rfl (eC rfl (eC rfl eN)))))) (mC rfl mN) rfl (prK rfl)) ⟨(i64 (n1 + 1)), v7, hrec1 ▸ h, rfl, rfl⟩
    replace h := iteF h hc6
    refine LH.skip ?_
    refine blockN ?_
    refine thenN ?_
    refine LH.wk (Wk.to (el := [(1, .lst 1 (List.map (LV.int .i64) p1)), (2, .sptr [.lst 3 (List.map GStamp.lv p0)]), (5, .arr 125 (List.length l2)), (13, .lst 3 (List.map GStamp.lv p0)), (14, .int .i64 (p0.length : Int)), (15, .int .i64 n1)]) (ml := [(125, .arr 3 1 (List.map (LV.int .i64) l2))]) (eC rfl (eC rfl (eC rfl (eC rfl (eC rfl (eC rfl eN)))))) (mC rfl mN) rfl (prK rfl)) ?_
    refine LH.loneT [(1, .lst 1 (List.map (LV.int .i64) p1)), (2, .sptr [.lst 3 (List.map GStamp.lv p0)]), (5, .arr 125 (List.length l2)), (13, .lst 3 (List.map GStamp.lv p0)), (14, .int .i64 (p0.length : Int)), (15, .int .i64 (i64 (n1 + 1)))] [(125, .arr 3 1 (List.map (LV.int .i64) l2))] rfl ?_ ?_
    · refine sN (oAdd rfl rfl ?_)
      refine sN (oM (v := (.int _ _)) rfl ?_)
      exact s0 (Wk.to (eC rfl (eC rfl (eC rfl (eC rfl (eC rfl (eC rfl eN)))))) (mC rfl mN) rfl (prK rfl))
    exact roundN (e' := Env.of [(1, .lst 1 (List.map (LV.int .i64) p1)), (2, .sptr [.lst 3 (List.map GStamp.lv p0)]), (5, .arr 125 (List.length l2)), (13, .lst 3 (List.map GStamp.lv p0)), (14, .int .i64 (p0.length : Int)), (15, .int .i64 (i64 (n1 + 1)))]) (m' := Mem.of [(125, .arr 3 1 (List.map (LV.int .i64) l2))]) (Wk.to (eC rfl (eC rfl (eC rfl (eC rfl (eC rfl (eC rfl eN)))))) (mC rfl mN) rfl (prK rfl)) ⟨(i64 (n1 + 1)), l2, hrec1 ▸ h, rfl, rfl⟩
  replace h := iteF h hc3
  refine LH.exit ?_
  refine thenX ?_
  refine roundX ?_
  refine blockH ?_
  refine thenN ?_
  refine LH.wk (Wk.to (el := [(1, .lst 1 (List.map (LV.int .i64) p1)), (2, .sptr [.lst 3 (List.map GStamp.lv p0)]), (5, .arr 125 (List.length l2))]) (ml := [(125, .arr 3 1 (List.map (LV.int .i64) l2))]) (eC rfl (eC rfl (eC rfl eN))) (mC rfl mN) rfl (prK rfl)) ?_
  obtain ⟨l8, hl8, h⟩ := bindS h
  refine LH.seqT [(1, .lst 1 (List.map (LV.int .i64) p1)), (2, .sptr [.lst 3 (List.map GStamp.lv p0)]), (5, .lst 1 (List.map (LV.int .i64) l8))] [] rfl ?_ ?_
  · refine sN (oM (v := (.arr _ _)) rfl ?_)
    refine sN (oMF (vs := [.sptr [.lst 3 (List.map GStamp.lv p0)]]) rfl ?_)
    refine sN (oCM (args := [.arr 125 (List.length l2), .fn 47 [.sptr [.lst 3 (List.map GStamp.lv p0)]]]) (ml := [(125, .arr 3 1 (List.map (LV.int .i64) l2))]) (ml' := [(125, .arr 3 1 (List.map (LV.int .i64) l8))]) rfl isF38 rfl (sbR (sbR sbN)) (sortI_ok Try.sortL rfl isF47 rfl (fun _ _ _ h => stamp_groups_1_ok h) 125 3 hl8) (mC rfl mN) (newI rfl newN) rfl ?_)
    exact s0 ((Wk.trans (Wk.to (el := [(1, .lst 1 (List.map (LV.int .i64) p1)), (2, .sptr [.lst 3 (List.map GStamp.lv p0)]), (5, .arr 125 (List.length l8))]) (ml := [(125, .arr 3 1 (List.map (LV.int .i64) l8))]) (eC rfl (eC rfl (eC (congrArg (LV.arr 125) (sortF_len hl8)) eN))) (mC rfl mN) rfl (prK rfl)) (Wk.trans (Wk.frzL (f := (LV.int .i64)) (el' := [(1, .lst 1 (List.map (LV.int .i64) p1)), (2, .sptr [.lst 3 (List.map GStamp.lv p0)]), (5, .lst 1 (List.map (LV.int .i64) l8))]) 125 3 1 l8 rfl rfl (prN rfl) (fK rfl (fK rfl (fZ fN)))) (Wk.to (eC rfl (eC rfl (eC rfl eN))) mN rfl (prK rfl)))))
  refine LH.seqT [(1, .lst 1 (List.map (LV.int .i64) p1)), (2, .sptr [.lst 3 (List.map GStamp.lv p0)]), (5, .lst 1 (List.map (LV.int .i64) l8)), (8, .nil)] [] rfl ?_ ?_
  · refine sN (oA (v := .nil) rfl ?_)
    exact s0 (Wk.to (eC rfl (eC rfl (eC rfl (eC rfl eN)))) mN rfl (prK rfl))
  refine LH.seq ?_
  refine LH.seqT [(1, .lst 1 (List.map (LV.int .i64) p1)), (2, .sptr [.lst 3 (List.map GStamp.lv p0)]), (8, .nil), (30, .lst 1 (List.map (LV.int .i64) l8)), (31, .int .i64 (l8.length : Int)), (32, .int .i64 0)] [] rfl ?_ ?_
  · refine sN (oM (v := (.lst _ _)) rfl ?_)
    refine sN (oLnL (f := (LV.int .i64)) te28 rfl ?_)
    refine sN (oM (v := (.int _ _)) rfl ?_)
    exact s0 (Wk.to (eC rfl (eC rfl (eC rfl (eC rfl (eC rfl (eC rfl eN)))))) mN rfl (prK rfl))
  refine LH.block ?_
  refine LH.wk ((Wk.trans (Wk.to (el := [(1, .lst 1 (List.map (LV.int .i64) p1)), (2, .sptr [.lst 3 (List.map GStamp.lv p0)]), (8, .nil), (30, .lst 1 (List.map (LV.int .i64) l8)), (31, .int .i64 (l8.length : Int)), (32, .int .i64 0)]) (ml := []) (eC rfl (eC rfl (eC rfl (eC rfl (eC rfl (eC rfl eN)))))) mN rfl (prK rfl)) (Wk.trans (Wk.to (el := [(1, .lst 1 (List.map (LV.int .i64) p1)), (2, .sptr [.lst 3 (List.map GStamp.lv p0)]), (8, .nil), (30, .lst 1 (List.map (LV.int .i64) l8)), (31, .int .i64 (l8.length : Int)), (32, .int .i64 0)]) (ml := []) (eC rfl (eC rfl (eC rfl (eC rfl (eC rfl (eC rfl eN)))))) mN rfl (prK rfl)) (Wk.trans (Wk.ownL (el' := [(1, .lst 1 (List.map (LV.int .i64) p1)), (2, .sptr [.lst 3 (List.map GStamp.lv p0)]), (8, .arr 161 (List.length ([] : List stamp_group))), (30, .lst 1 (List.map (LV.int .i64) l8)), (31, .int .i64 (l8.length : Int)), (32, .int .i64 0)]) 161 59 2 rfl rfl (wK (wK (wO (wK (wK (wK wN))))))) (Wk.to (el := [(1, .lst 1 (List.map (LV.int .i64) p1)), (2, .sptr [.lst 3 (List.map GStamp.lv p0)]), (8, .arr 161 (List.length ([] : List stamp_group))), (30, .lst 1 (List.map (LV.int .i64) l8)), (31, .int .i64 (l8.length : Int)), (32, .int .i64 0)]) (ml := [(161, .arr 59 2 (List.map stamp_group.lv ([] : List stamp_group)))]) (eC rfl (eC rfl (eC rfl (eC rfl (eC rfl (eC rfl eN)))))) (mC rfl mN) rfl (prK rfl)))))) ?_
  refine LH.loop (fun n e m => ∃ (n9 : Int) (l10 : List stamp_group), stamp_groups_L2 F p0 p1 l8 n n9 l10 = some r ∧ e = Env.of [(1, .lst 1 (List.map (LV.int .i64) p1)), (2, .sptr [.lst 3 (List.map GStamp.lv p0)]), (8, .arr 161 (List.length l10)), (30, .lst 1 (List.map (LV.int .i64) l8)), (31, .int .i64 (l8.length : Int)), (32, .int .i64 n9)] ∧ m = Mem.of [(161, .arr 59 2 (List.map stamp_group.lv l10))]) F ⟨0, ([] : List stamp_group), h, rfl, rfl⟩ ?_
  clear h
  rintro n e m ⟨n9, l10, h, rfl, rfl⟩
  rcases n with _ | n
  · cases (show Option.none = some _ from h)
  obtain ⟨rec2, hrec2⟩ : ∃ f, f = stamp_groups_L2 F p0 p1 l8 n := ⟨_, rfl⟩
  replace h : stamp_groups_L2_B F p0 p1 l8 rec2 n9 l10 = some r := hrec2 ▸ h
  unfold stamp_groups_L2_B at h
  refine LH.seqT [(1, .lst 1 (List.map (LV.int .i64) p1)), (2, .sptr [.lst 3 (List.map GStamp.lv p0)]), (8, .arr 161 (List.length l10)), (30, .lst 1 (List.map (LV.int .i64) l8)), (31, .int .i64 (l8.length : Int)), (32, .int .i64 n9), (33, .bool (decide (n9 < (l8.length : Int))))] [(161, .arr 59 2 (List.map stamp_group.lv l10))] rfl ?_ ?_
  · refine sN (oLt rfl rfl ?_)
    exact s0 (Wk.to (eC rfl (eC rfl (eC rfl (eC rfl (eC rfl (eC rfl (eC rfl eN))))))) (mC rfl mN) rfl (prK rfl))
  refine LH.seq ?_
  refine LH.cond (t := (decide (n9 < (l8.length : Int)))) rfl (fun hc11 => ?_) (fun hc11 => ?_)
  · replace h := iteT h hc11
    refine LH.skip ?_
    refine thenN ?_
    refine LH.wk (Wk.to (el := [(1, .lst 1 (List.map (LV.int .i64) p1)), (2, .sptr [.lst 3 (List.map GStamp.lv p0)]), (8, .arr 161 (List.length l10)), (30, .lst 1 (List.map (LV.int .i64) l8)), (31, .int .i64 (l8.length : Int)), (32, .int .i64 n9)]) (ml := [(161, .arr 59 2 (List.map stamp_group.lv l10))]) (eC rfl (eC rfl (eC rfl (eC rfl (eC rfl (eC rfl eN)))))) (mC rfl mN) rfl (prK rfl)) ?_
    refine LH.seq ?_
    refine LH.block ?_
    obtain ⟨x12, hx12, h⟩ := bindS h
    refine LH.seqT [(1, .lst 1 (List.map (LV.int .i64) p1)), (2, .sptr [.lst 3 (List.map GStamp.lv p0)]), (8, .arr 161 (List.length l10)), (10, .int .i64 x12), (30, .lst 1 (List.map (LV.int .i64) l8)), (31, .int .i64 (l8.length : Int)), (32, .int .i64 n9)] [(161, .arr 59 2 (List.map stamp_group.lv l10))] rfl ?_ ?_
    · refine sN (oIx (f := (LV.int .i64)) te28 tk3 ts3 rfl rfl okI hx12 rfl ?_)
      refine sN (oLd rfl tk3 ta3 ?_)
      refine sN (oA (v := (.int _ _)) rfl ?_)
      exact s0 (Wk.to (eC rfl (eC rfl (eC rfl (eC rfl (eC rfl (eC rfl (eC rfl eN))))))) (mC rfl mN) rfl (prK rfl))
    refine LH.seqT [(1, .lst 1 (List.map (LV.int .i64) p1)), (2, .sptr [.lst 3 (List.map GStamp.lv p0)]), (8, .arr 161 (List.length l10)), (10, .int .i64 x12), (11, .int .i64 (i64 ((l10.length : Int) - 1))), (30, .lst 1 (List.map (LV.int .i64) l8)), (31, .int .i64 (l8.length : Int)), (32, .int .i64 n9)] [(161, .arr 59 2 (List.map stamp_group.lv l10))] rfl ?_ ?_
    · refine sN (oM (v := (.arr _ _)) rfl ?_)
      refine sN (oLnA (f := stamp_group.lv) te56 rfl rfl ?_)
      refine sN (oSub rfl rfl ?_)
      refine sN (oA (v := (.int _ _)) rfl ?_)
      exact s0 (Wk.to (eC rfl (eC rfl (eC rfl (eC rfl (eC rfl (eC rfl (eC rfl (eC rfl eN)))))))) (mC rfl mN) rfl (prK rfl))
    refine LH.seq ?_
    obtain ⟨w14, hv, h⟩ := bindS h
    refine LH.seqJM mixed [] [0, 0, 0, 0, 0, 0, 1, 1, 1, 0, 0, 0, 0, 0, 0, 0, 0, 0] [(1, .lst 1 (List.map (LV.int .i64) p1)), (2, .sptr [.lst 3 (List.map GStamp.lv p0)]), (8, .arr 161 (List.length l10)), (10, .int .i64 x12), (11, .int .i64 (i64 ((l10.length : Int) - 1))), (30, .lst 1 (List.map (LV.int .i64) l8)), (31, .int .i64 (l8.length : Int)), (32, .int .i64 n9), (56, .bool w14)] [(161, .arr 59 2 (List.map stamp_group.lv l10))] rfl rfl (by kernel_rfl) ?_ ?_
    · refine mN0 (oM (v := (.int _ _)) rfl ⟨rfl, ?_⟩)
      refine mN0 (oLt rfl rfl ⟨rfl, ?_⟩)
      refine mN0 (oM (v := (.bool _)) rfl ⟨rfl, ?_⟩)
      by_cases hb15 : (decide ((i64 ((l10.length : Int) - 1)) < 0)) = true
      · replace hv := iteT hv hb15
        refine mF rfl rfl hb15 ?_
        refine mF rfl rfl hb15 ?_
        refine mF rfl rfl hb15 ?_
        refine mF rfl rfl hb15 ?_
        refine mF rfl rfl hb15 ?_
        refine mF rfl rfl hb15 ?_
        refine mF rfl rfl hb15 ?_
        refine mF rfl rfl hb15 ?_
        refine mF rfl rfl hb15 ?_
        refine mF rfl rfl hb15 ?_
        refine mF rfl rfl hb15 ?_
        refine mF rfl rfl hb15 ?_
        refine mF rfl rfl hb15 ?_
        refine mF rfl rfl hb15 ?_
        refine mN0 (oPkT (congrArg LV.bool hb15) (v := (.bool _)) rfl ⟨rfl, ?_⟩)
        obtain rfl := Option.some.inj hv
        exact m0 (Wk.to (eC rfl (eC rfl (eC rfl (eC rfl (eC rfl (eC rfl (eC rfl (eC rfl (eC rfl eN))))))))) (mC rfl mN) rfl (prK rfl))
      · replace hb15 := bF hb15
        replace hv := iteF hv hb15
        refine mT rfl (congrArg LV.bool hb15) (mN0 (oLd rfl tk31 ta31 ⟨rfl, ?_⟩))
        refine mT rfl (congrArg LV.bool hb15) (mN0 (oM (v := (.arr _ _)) rfl ⟨rfl, ?_⟩))
        refine mT rfl (congrArg LV.bool hb15) (mN0 (oM (v := (.int _ _)) rfl ⟨rfl, ?_⟩))
        obtain ⟨x16, hx16, hv⟩ := bindS hv
        refine mT rfl (congrArg LV.bool hb15) (mN1 (oIxA (f := stamp_group.lv) te56 tk59 ts59 rfl rfl rfl hx16 ⟨rfl, ?_⟩))
        refine mT rfl (congrArg LV.bool hb15) (mN1 (oFaE (f := stamp_group.lv) tf59_0 tk3 ts3 rfl rfl rfl ⟨rfl, ?_⟩))
        refine mT rfl (congrArg LV.bool hb15) (mN1 (oLdE (f := stamp_group.lv) rfl rfl (idxOk hx16).2 rfl rfl rfl tk3 ta3 ⟨rfl, ?_⟩))
        obtain ⟨x17, hx17, hv⟩ := bindS hv
        refine mT rfl (congrArg LV.bool hb15) (mN0 (oIx (f := GStamp.lv) te31 tk23 ts23 rfl rfl GStamp.ok hx17 rfl ⟨rfl, ?_⟩))
        refine mT rfl (congrArg LV.bool hb15) (mN0 (oLdA rfl tk23 ta23 ts23 rfl rfl ⟨rfl, ?_⟩))
        refine mT rfl (congrArg LV.bool hb15) (mN0 (oLd rfl tk31 ta31 ⟨rfl, ?_⟩))
        refine mT rfl (congrArg LV.bool hb15) (mN0 (oM (v := (.int _ _)) rfl ⟨rfl, ?_⟩))
        obtain ⟨x18, hx18, hv⟩ := bindS hv
        refine mT rfl (congrArg LV.bool hb15) (mN0 (oIx (f := GStamp.lv) te31 tk23 ts23 rfl rfl GStamp.ok hx18 rfl ⟨rfl, ?_⟩))
        refine mT rfl (congrArg LV.bool hb15) (mN0 (oLdA rfl tk23 ta23 ts23 rfl rfl ⟨rfl, ?_⟩))
        obtain ⟨r19, hr19, hv⟩ := bindS hv
        refine mT rfl (congrArg LV.bool hb15) (mN0 (oCP (args := [.agg [.int .i64 x17.Time, .int .i64 x17.Source, .int .i64 x17.Seq], .agg [.int .i64 x18.Time, .int .i64 x18.Source, .int .i64 x18.Seq]]) rfl isF48 rfl (sbR (sbR sbN)) (stamp_compareIdentity_ok hr19) rfl ⟨rfl, ?_⟩))
        refine mT rfl (congrArg LV.bool hb15) (mN0 (oNe rfl rfl ⟨rfl, ?_⟩))
        refine mN0 (oPkF (congrArg LV.bool hb15) (v := (.bool _)) rfl ⟨rfl, ?_⟩)
        obtain rfl := Option.some.inj hv
        exact m0 (Wk.to (eC rfl (eC rfl (eC rfl (eC rfl (eC rfl (eC rfl (eC rfl (eC rfl (eC rfl eN))))))))) (mC rfl mN) rfl (prK rfl))
    clear hv
    refine LH.cond (t := w14) rfl (fun hc20 => ?_) (fun hc20 => ?_)
    · replace h := iteT h hc20
      obtain ⟨v21, hv21, h⟩ := bindS h
      refine LH.seqT [(1, .lst 1 (List.map (LV.int .i64) p1)), (2, .sptr [.lst 3 (List.map GStamp.lv p0)]), (8, .arr 161 (List.length v21)), (30, .lst 1 (List.map (LV.int .i64) l8)), (31, .int .i64 (l8.length : Int)), (32, .int .i64 n9)] [(161, .arr 59 2 (List.map stamp_group.lv v21))] rfl ?_ ?_
      · refine sN (oM (v := (.arr _ _)) rfl ?_)
        refine sN (oM (v := (.int _ _)) rfl ?_)
        refine sN (oBd (vs := [(0, .int .i64 x12), (1, .bool false)]) tu59 tz59 rfl (lf tf59_0 ts3 tk3 rfl rfl rfl (lf tf59_1 ts4 tk4 rfl rfl rfl lf0)) ?_)
        refine sN (oBS (f := stamp_group.lv) (ys := [(stamp_group.mk x12 false)]) te56 tr59 ts59 rfl rfl rfl stamp_group.ok ?_)
        refine sN (oAp (f := stamp_group.lv) te56 tr59 ts59 rfl rfl (prN rfl) rfl hv21 ?_)
        refine sN (oA (v := (.arr _ _)) rfl ?_)
        exact s0 (Wk.to (eC rfl (eC rfl (eC rfl (eC rfl (eC rfl (eC rfl eN)))))) (mC rfl mN) rfl (prK rfl))
      refine LH.exit ?_
      refine thenX ?_
      refine blockH ?_
      refine thenN ?_
      refine LH.loneT [(1, .lst 1 (List.map (LV.int .i64) p1)), (2, .sptr [.lst 3 (List.map GStamp.lv p0)]), (8, .arr 161 (List.length v21)), (30, .lst 1 (List.map (LV.int .i64) l8)), (31, .int .i64 (l8.length : Int)), (32, .int .i64 (i64 (n9 + 1)))] [(161, .arr 59 2 (List.map stamp_group.lv v21))] rfl ?_ ?_
      · refine sN (oAdd rfl rfl ?_)
        refine sN (oM (v := (.int _ _)) rfl ?_)
        exact s0 (Wk.to (eC rfl (eC rfl (eC rfl (eC rfl (eC rfl (eC rfl eN)))))) (mC rfl mN) rfl (prK rfl))
      exact roundN (e' := Env.of [(1, .lst 1 (List.map (LV.int .i64) p1)), (2, .sptr [.lst 3 (List.map GStamp.lv p0)]), (8, .arr 161 (List.length v21)), (30, .lst 1 (List.map (LV.int .i64) l8)), (31, .int .i64 (l8.length : Int)), (32, .int .i64 (i64 (n9 + 1)))]) (m' := Mem.of [(161, .arr 59 2 (List.map stamp_group.lv v21))]) (Wk.to (eC rfl (eC rfl (eC rfl (eC rfl (eC rfl (eC rfl eN)))))) (mC rfl mN) rfl (prK rfl)) ⟨(i64 (n9 + 1)), v21, hrec2 ▸ h, rfl, rfl⟩
    replace h := iteF h hc20
    refine LH.skip ?_
    refine thenN ?_
    refine LH.wk (Wk.to (el := [(1, .lst 1 (List.map (LV.int .i64) p1)), (2, .sptr [.lst 3 (List.map GStamp.lv p0)]), (8, .arr 161 (List.length l10)), (10, .int .i64 x12), (11, .int .i64 (i64 ((l10.length : Int) - 1))), (30, .lst 1 (List.map (LV.int .i64) l8)), (31, .int .i64 (l8.length : Int)), (32, .int .i64 n9)]) (ml := [(161, .arr 59 2 (List.map stamp_group.lv l10))]) (eC rfl (eC rfl (eC rfl (eC rfl (eC rfl (eC rfl (eC rfl (eC rfl eN)))))))) (mC rfl mN) rfl (prK rfl)) ?_
    obtain ⟨x22, hx22, h⟩ := bindS h
    refine LH.seqT [(1, .lst 1 (List.map (LV.int .i64) p1)), (2, .sptr [.lst 3 (List.map GStamp.lv p0)]), (8, .arr 161 (List.length l10)), (10, .int .i64 x12), (11, .int .i64 (i64 ((l10.length : Int) - 1))), (12, .int .i64 x22.first), (30, .lst 1 (List.map (LV.int .i64) l8)), (31, .int .i64 (l8.length : Int)), (32, .int .i64 n9)] [(161, .arr 59 2 (List.map stamp_group.lv l10))] rfl ?_ ?_
    · refine sN (oM (v := (.arr _ _)) rfl ?_)
      refine sN (oM (v := (.int _ _)) rfl ?_)
      refine sN (oIxA (f := stamp_group.lv) te56 tk59 ts59 rfl rfl rfl hx22 ?_)
      refine sN (oFaE (f := stamp_group.lv) tf59_0 tk3 ts3 rfl rfl rfl ?_)
      refine sN (oLdE (f := stamp_group.lv) rfl rfl (idxOk hx22).2 rfl rfl rfl tk3 ta3 ?_)
      refine sN (oA (v := (.int _ _)) rfl ?_)
      exact s0 (Wk.to (eC rfl (eC rfl (eC rfl (eC rfl (eC rfl (eC rfl (eC rfl (eC rfl (eC rfl eN))))))))) (mC rfl mN) rfl (prK rfl))
    obtain ⟨w24, hv, h⟩ := bindS h
    refine LH.seqJM mixed [] [0, 0, 0, 0, 0, 0, 0, 0, 0, 0, 0, 0, 0, 0, 0, 0, 0, 0, 0, 0] [(1, .lst 1 (List.map (LV.int .i64) p1)), (2, .sptr [.lst 3 (List.map GStamp.lv p0)]), (8, .arr 161 (List.length l10)), (11, .int .i64 (i64 ((l10.length : Int) - 1))), (30, .lst 1 (List.map (LV.int .i64) l8)), (31, .int .i64 (l8.length : Int)), (32, .int .i64 n9), (86, .bool w24)] [(161, .arr 59 2 (List.map stamp_group.lv l10))] rfl rfl (by kernel_rfl) ?_ ?_
    · refine mN0 (oLd rfl tk31 ta31 ⟨rfl, ?_⟩)
      refine mN0 (oM (v := (.int _ _)) rfl ⟨rfl, ?_⟩)
      obtain ⟨x25, hx25, hv⟩ := bindS hv
      refine mN0 (oIx (f := GStamp.lv) te31 tk23 ts23 rfl rfl GStamp.ok hx25 rfl ⟨rfl, ?_⟩)
      refine mN0 (oLdA rfl tk23 ta23 ts23 rfl rfl ⟨rfl, ?_⟩)
      refine mN0 (oLd rfl tk31 ta31 ⟨rfl, ?_⟩)
      refine mN0 (oM (v := (.int _ _)) rfl ⟨rfl, ?_⟩)
      obtain ⟨x26, hx26, hv⟩ := bindS hv
      refine mN0 (oIx (f := GStamp.lv) te31 tk23 ts23 rfl rfl GStamp.ok hx26 rfl ⟨rfl, ?_⟩)
      refine mN0 (oLdA rfl tk23 ta23 ts23 rfl rfl ⟨rfl, ?_⟩)
      refine mN0 (oNeA rfl rfl (ae23 x25 x26) ⟨rfl, ?_⟩)
      refine mN0 (oM (v := (.bool _)) rfl ⟨rfl, ?_⟩)
      by_cases hb27 : (!(decide (x25 = x26))) = true
      · replace hv := iteT hv hb27
        refine mF rfl rfl hb27 ?_
        refine mF rfl rfl hb27 ?_
        refine mF rfl rfl hb27 ?_
        refine mF rfl rfl hb27 ?_
        refine mF rfl rfl hb27 ?_
        refine mF rfl rfl hb27 ?_
        refine mF rfl rfl hb27 ?_
        refine mF rfl rfl hb27 ?_
        refine mF rfl rfl hb27 ?_
        refine mN0 (oPkT (congrArg LV.bool hb27) (v := (.bool _)) rfl ⟨rfl, ?_⟩)
        obtain rfl := Option.some.inj hv
        exact m0 (Wk.to (eC rfl (eC rfl (eC rfl (eC rfl (eC rfl (eC rfl (eC rfl (eC rfl eN)))))))) (mC rfl mN) rfl (prK rfl))
      · replace hb27 := bF hb27
        replace hv := iteF hv hb27
        refine mT rfl (congrArg LV.bool hb27) (mN0 (oM (v := (.lst _ _)) rfl ⟨rfl, ?_⟩))
        refine mT rfl (congrArg LV.bool hb27) (mN0 (oM (v := (.int _ _)) rfl ⟨rfl, ?_⟩))
        obtain ⟨x28, hx28, hv⟩ := bindS hv
        refine mT rfl (congrArg LV.bool hb27) (mN0 (oIx (f := (LV.int .i64)) te28 tk3 ts3 rfl rfl okI hx28 rfl ⟨rfl, ?_⟩))
        refine mT rfl (congrArg LV.bool hb27) (mN0 (oLd rfl tk3 ta3 ⟨rfl, ?_⟩))
        refine mT rfl (congrArg LV.bool hb27) (mN0 (oM (v := (.lst _ _)) rfl ⟨rfl, ?_⟩))
        refine mT rfl (congrArg LV.bool hb27) (mN0 (oM (v := (.int _ _)) rfl ⟨rfl, ?_⟩))
        obtain ⟨x29, hx29, hv⟩ := bindS hv
        refine mT rfl (congrArg LV.bool hb27) (mN0 (oIx (f := (LV.int .i64)) te28 tk3 ts3 rfl rfl okI hx29 rfl ⟨rfl, ?_⟩))
        refine mT rfl (congrArg LV.bool hb27) (mN0 (oLd rfl tk3 ta3 ⟨rfl, ?_⟩))
        refine mT rfl (congrArg LV.bool hb27) (mN0 (oNe rfl rfl ⟨rfl, ?_⟩))
        refine mN0 (oPkF (congrArg LV.bool hb27) (v := (.bool _)) rfl ⟨rfl, ?_⟩)
        obtain rfl := Option.some.inj hv
        exact m0 (Wk.to (eC rfl (eC rfl (eC rfl (eC rfl (eC rfl (eC rfl (eC rfl (eC rfl eN)))))))) (mC rfl mN) rfl (prK rfl))
    clear hv
    refine LH.cond (t := w24) rfl (fun hc30 => ?_) (fun hc30 => ?_)
    · replace h := iteT h hc30
      obtain ⟨x31, hx31, h⟩ := bindS h
      refine LH.loneT [(1, .lst 1 (List.map (LV.int .i64) p1)), (2, .sptr [.lst 3 (List.map GStamp.lv p0)]), (8, .arr 161 (List.length (l10.set ((i64 ((l10.length : Int) - 1)).toNat) (stamp_group.mk x31.first true)))), (30, .lst 1 (List.map (LV.int .i64) l8)), (31, .int .i64 (l8.length : Int)), (32, .int .i64 n9)] [(161, .arr 59 2 (List.map stamp_group.lv (l10.set ((i64 ((l10.length : Int) - 1)).toNat) (stamp_group.mk x31.first true))))] rfl ?_ ?_
      · refine sN (oM (v := (.arr _ _)) rfl ?_)
        refine sN (oM (v := (.int _ _)) rfl ?_)
        refine sN (oIxA (f := stamp_group.lv) te56 tk59 ts59 rfl rfl rfl hx31 ?_)
        refine sN (oFaE (f := stamp_group.lv) tf59_1 tk4 ts4 rfl rfl rfl ?_)
        refine s_ (oStE (f := stamp_group.lv) (z' := (stamp_group.mk x31.first true)) rfl rfl rfl rfl tk4 ts4 rfl (idxOk hx31).2 rfl ?_)
        exact s0 (Wk.to (eC rfl (eC rfl (eC (congrArg (LV.arr 161) (by simp)) (eC rfl (eC rfl (eC rfl eN)))))) (mC rfl mN) rfl (prK rfl))
      refine blockN ?_
      refine thenN ?_
      refine LH.loneT [(1, .lst 1 (List.map (LV.int .i64) p1)), (2, .sptr [.lst 3 (List.map GStamp.lv p0)]), (8, .arr 161 (List.length (l10.set ((i64 ((l10.length : Int) - 1)).toNat) (stamp_group.mk x31.first true)))), (30, .lst 1 (List.map (LV.int .i64) l8)), (31, .int .i64 (l8.length : Int)), (32, .int .i64 (i64 (n9 + 1)))] [(161, .arr 59 2 (List.map stamp_group.lv (l10.set ((i64 ((l10.length : Int) - 1)).toNat) (stamp_group.mk x31.first true))))] rfl ?_ ?_
      · refine sN (oAdd rfl rfl ?_)
        refine sN (oM (v := (.int _ _)) rfl ?_)
        exact s0 (Wk.to (eC rfl (eC rfl (eC rfl (eC rfl (eC rfl (eC rfl eN)))))) (mC rfl mN) rfl (prK rfl))
      exact roundN (e' := Env.of [(1, .lst 1 (List.map (LV.int .i64) p1)), (2, .sptr [.lst 3 (List.map GStamp.lv p0)]), (8, .arr 161 (List.length (l10.set ((i64 ((l10.length : Int) - 1)).toNat) (stamp_group.mk x31.first true)))), (30, .lst 1 (List.map (LV.int .i64) l8)), (31, .int .i64 (l8.length : Int)), (32, .int .i64 (i64 (n9 + 1)))]) (m' := Mem.of [(161, .arr 59 2 (List.map stamp_group.lv (l10.set ((i64 ((l10.length : Int) - 1)).toNat) (stamp_group.mk x31.first true))))]) (Wk.to (eC rfl (eC rfl (eC rfl (eC rfl (eC rfl (eC rfl eN)))))) (mC rfl mN) rfl (prK rfl)) ⟨(i64 (n9 + 1)), (l10.set ((i64 ((l10.length : Int) - 1)).toNat) (stamp_group.mk x31.first true)), hrec2 ▸ h, rfl, rfl⟩
    replace h := iteF h hc30
    refine LH.skip ?_
    refine blockN ?_
    refine thenN ?_
    refine LH.wk (Wk.to (el := [(1, .lst 1 (List.map (LV.int .i64) p1)), (2, .sptr [.lst 3 (List.map GStamp.lv p0)]), (8, .arr 161 (List.length l10)), (30, .lst 1 (List.map (LV.int .i64) l8)), (31, .int .i64 (l8.length : Int)), (32, .int .i64 n9)]) (ml := [(161, .arr 59 2 (List.map stamp_group.lv l10))]) (eC rfl (eC rfl (eC rfl (eC rfl (eC rfl (eC rfl eN)))))) (mC rfl mN) rfl (prK rfl)) ?_
    refine LH.loneT [(1, .lst 1 (List.map (LV.int .i64) p1)), (2, .sptr [.lst 3 (List.map GStamp.lv p0)]), (8, .arr 161 (List.length l10)), (30, .lst 1 (List.map (LV.int .i64) l8)), (31, .int .i64 (l8.length : Int)), (32, .int .i64 (i64 (n9 + 1)))] [(161, .arr 59 2 (List.map stamp_group.lv l10))] rfl ?_ ?_
    · refine sN (oAdd rfl rfl ?_)
      refine sN (oM (v := (.int _ _)) rfl ?_)
      exact s0 (Wk.to (eC rfl (eC rfl (eC rfl (eC rfl (eC rfl (eC rfl eN)))))) (mC rfl mN) rfl (prK rfl))
    exact roundN (e' := Env.of [(1, .lst 1 (List.map (LV.int .i64) p1)), (2, .sptr [.lst 3 (List.map GStamp.lv p0)]), (8, .arr 161 (List.length l10)), (30, .lst 1 (List.map (LV.int .i64) l8)), (31, .int .i64 (l8.length : Int)), (32, .int .i64 (i64 (n9 + 1)))]) (m' := Mem.of [(161, .arr 59 2 (List.map stamp_group.lv l10))]) (Wk.to (eC rfl (eC rfl (eC rfl (eC rfl (eC rfl (eC rfl eN)))))) (mC rfl mN) rfl (prK rfl)) ⟨(i64 (n9 + 1)), l10, hrec2 ▸ h, rfl, rfl⟩
  replace h := iteF h hc11
  refine LH.exit ?_
  refine thenX ?_
  refine roundX ?_
  refine blockH ?_
  refine thenN ?_
  refine LH.wk ((Wk.trans (Wk.to (el := [(8, .arr 161 (List.length l10))]) (ml := [(161, .arr 59 2 (List.map stamp_group.lv l10))]) (eC rfl eN) (mC rfl mN) rfl (prK rfl)) (Wk.trans (Wk.frzL (f := stamp_group.lv) (el' := [(8, .lst 2 (List.map stamp_group.lv l10))]) 161 59 2 l10 rfl rfl (prN rfl) (fZ fN)) (Wk.to (el := [(8, .lst 2 (List.map stamp_group.lv l10))]) (ml := []) (eC rfl eN) mN rfl (prK rfl))))) ?_
  refine LH.seqT [(4, .lst 2 (List.map stamp_group.lv l10))] [] rfl ?_ ?_
  · refine sN (oM (v := (.lst _ _)) rfl ?_)
    refine sN (oA (v := (.lst _ _)) rfl ?_)
    exact s0 (Wk.to (eC rfl eN) mN rfl (prK rfl))
  refine LH.ret ?_
  obtain rfl := Option.some.inj h
  exact retE (congrArg Array.toList Try.results37) (lrT rfl (lr0 ⟨memN mN, rfl, prK rfl, Sub.rfl⟩))

theorem stamp_Canonical_1_ok {F : Nat} {p0 : Int} {p1 : Int} {c0 : List GStamp} {r : Int} (h : stamp_Canonical_1 F p0 p1 c0 = some r) : LCall Try.prog 39 [.int .i64 p0, .int .i64 p1, .sptr [.lst 3 (List.map GStamp.lv c0)]] (Mem.of []) (.int .i64 r) (Mem.of []) := by
  unfold stamp_Canonical_1 at h
  refine bodyT Try.func39 rfl (by rw [Try.ntmps39]; exact Nat.le_of_ble_eq_true rfl) ?_
  refine LH.wk (Wk.to (el := [(0, .int .i64 p0), (1, .int .i64 p1), (2, .sptr [.lst 3 (List.map GStamp.lv c0)])]) (ml := []) (eC rfl (eC rfl (eC rfl eN))) mN rfl (prK rfl)) ?_
  refine LH.seqT [(0, .int .i64 p0), (1, .int .i64 p1), (2, .sptr [.lst 3 (List.map GStamp.lv c0)])] [] rfl ?_ ?_
  · refine sN (oA (v := (.int _ _)) rfl ?_)
    exact s0 (Wk.to (eC rfl (eC rfl (eC rfl eN))) mN rfl (prK rfl))
  obtain ⟨x1, hx1, h⟩ := bindS h
  obtain ⟨x2, hx2, h⟩ := bindS h
  obtain ⟨r3, hr3, h⟩ := bindS h
  refine LH.seqJM mixed [] [0, 0, 0, 0, 0, 0, 0, 0, 0, 0] [(5, .int .i64 r3)] [] rfl rfl (by kernel_rfl) ?_ ?_
  · refine mN0 (oLd rfl tk31 ta31 ⟨rfl, ?_⟩)
    refine mN0 (oM (v := (.int _ _)) rfl ⟨rfl, ?_⟩)
    refine mN0 (oIx (f := GStamp.lv) te31 tk23 ts23 rfl rfl GStamp.ok hx1 rfl ⟨rfl, ?_⟩)
    refine mN0 (oLdA rfl tk23 ta23 ts23 rfl rfl ⟨rfl, ?_⟩)
    refine mN0 (oLd rfl tk31 ta31 ⟨rfl, ?_⟩)
    refine mN0 (oM (v := (.int _ _)) rfl ⟨rfl, ?_⟩)
    refine mN0 (oIx (f := GStamp.lv) te31 tk23 ts23 rfl rfl GStamp.ok hx2 rfl ⟨rfl, ?_⟩)
    refine mN0 (oLdA rfl tk23 ta23 ts23 rfl rfl ⟨rfl, ?_⟩)
    refine mN0 (oCP (args := [.agg [.int .i64 x1.Time, .int .i64 x1.Source, .int .i64 x1.Seq], .agg [.int .i64 x2.Time, .int .i64 x2.Source, .int .i64 x2.Seq]]) rfl isF14 rfl (sbR (sbR sbN)) (stamp_Compare_ok hr3) rfl ⟨rfl, ?_⟩)
    refine mN0 (oA (v := (.int _ _)) rfl ⟨rfl, ?_⟩)
    exact m0 (Wk.to (eC rfl eN) mN rfl (prK rfl))
  refine LH.ret ?_
  obtain rfl := Option.some.inj h
  exact retE (congrArg Array.toList Try.results39) (lrT rfl (lr0 ⟨memN mN, rfl, prK rfl, Sub.rfl⟩))

theorem stamp_Canonical_ok {F : Nat} {p0 : List GStamp} {p1 : List Int} {r : List Int × Int} (h : stamp_Canonical F p0 p1 = some r) : LCall Try.prog 20 [.lst 3 (List.map GStamp.lv p0), .lst 1 (List.map (LV.int .i64) p1)] (Mem.of []) (.tup [.lst 1 (List.map (LV.int .i64) r.1), .int .i64 r.2]) (Mem.of []) := by
  unfold stamp_Canonical at h
  refine bodyT Try.func20 rfl (by rw [Try.ntmps20]; exact Nat.le_of_ble_eq_true rfl) ?_
  refine LH.wk (Wk.to (el := [(0, .lst 3 (List.map GStamp.lv p0)), (1, .lst 1 (List.map (LV.int .i64) p1))]) (ml := []) (eC rfl (eC rfl eN)) mN rfl (prK rfl)) ?_
  refine LH.seqT [(1, .lst 1 (List.map (LV.int .i64) p1)), (2, .sptr [.lst 3 (List.map GStamp.lv p0)])] [] rfl ?_ ?_
  · refine sB (oBxR rfl rfl rfl rfl rfl ?_)
    refine sN (oA (v := .nil) rfl ?_)
    refine sN (oA (v := (.int _ _)) rfl ?_)
    exact s0 (Wk.to (eC rfl (eC rfl eN)) mN rfl (prK rfl))
  refine LH.seq ?_
  refine LH.seqT [(1, .lst 1 (List.map (LV.int .i64) p1)), (2, .sptr [.lst 3 (List.map GStamp.lv p0)]), (13, .bool ((p0.length : Int) != (p1.length : Int)))] [] rfl ?_ ?_
  · refine sN (oLd rfl tk31 ta31 ?_)
    refine sN (oLnL (f := GStamp.lv) te31 rfl ?_)
    refine sN (oM (v := (.lst _ _)) rfl ?_)
    refine sN (oLnL (f := (LV.int .i64)) te28 rfl ?_)
    refine sN (oNe rfl rfl ?_)
    exact s0 (Wk.to (eC rfl (eC rfl (eC rfl eN))) mN rfl (prK rfl))
  refine LH.cond (t := ((p0.length : Int) != (p1.length : Int))) rfl (fun hc1 => ?_) (fun hc1 => ?_)
  · replace h := iteT h hc1
    refine LH.seqT [(4, .nil), (5, .int .i64 1)] [] rfl ?_ ?_
    · refine sN (oA (v := .nil) rfl ?_)
      refine sN (oA (v := (.int _ _)) rfl ?_)
      exact s0 (Wk.to (eC rfl (eC rfl eN)) mN rfl (prK rfl))
    refine LH.ret ?_
    refine thenR ?_
    obtain rfl := Option.some.inj h
    exact retE (congrArg Array.toList Try.results20) (lrT rfl (lrT rfl (lr0 ⟨memN mN, rfl, prK rfl, (Sub.tup (sbL (sbR sbN)))⟩)))
  replace h := iteF h hc1
  refine LH.skip ?_
  refine thenN ?_
  refine LH.wk (Wk.to (el := [(1, .lst 1 (List.map (LV.int .i64) p1)), (2, .sptr [.lst 3 (List.map GStamp.lv p0)])]) (ml := []) (eC rfl (eC rfl eN)) mN rfl (prK rfl)) ?_
  refine LH.seqT [(1, .lst 1 (List.map (LV.int .i64) p1)), (2, .sptr [.lst 3 (List.map GStamp.lv p0)]), (6, .nil)] [] rfl ?_ ?_
  · refine sN (oA (v := .nil) rfl ?_)
    exact s0 (Wk.to (eC rfl (eC rfl (eC rfl eN))) mN rfl (prK rfl))
  refine LH.seq ?_
  obtain ⟨r2, hr2, h⟩ := bindS h
  refine LH.seqT [(2, .sptr [.lst 3 (List.map GStamp.lv p0)]), (6, .nil), (16, .lst 2 (List.map stamp_group.lv r2)), (17, .int .i64 (r2.length : Int)), (18, .int .i64 0)] [] rfl ?_ ?_
  · refine sN (oLd rfl tk31 ta31 ?_)
    refine sN (oM (v := (.lst _ _)) rfl ?_)
    refine sN (oCP (args := [.lst 3 (List.map GStamp.lv p0), .lst 1 (List.map (LV.int .i64) p1)]) rfl isF37 rfl (sbR (sbR sbN)) (stamp_groups_ok hr2) rfl ?_)
    refine sN (oLnL (f := stamp_group.lv) te56 rfl ?_)
    refine sN (oM (v := (.int _ _)) rfl ?_)
    exact s0 (Wk.to (eC rfl (eC rfl (eC rfl (eC rfl (eC rfl eN))))) mN rfl (prK rfl))
  refine LH.block ?_
  refine LH.wk ((Wk.trans (Wk.to (el := [(2, .sptr [.lst 3 (List.map GStamp.lv p0)]), (6, .nil), (16, .lst 2 (List.map stamp_group.lv r2)), (17, .int .i64 (r2.length : Int)), (18, .int .i64 0)]) (ml := []) (eC rfl (eC rfl (eC rfl (eC rfl (eC rfl eN))))) mN rfl (prK rfl)) (Wk.trans (Wk.to (el := [(2, .sptr [.lst 3 (List.map GStamp.lv p0)]), (6, .nil), (16, .lst 2 (List.map stamp_group.lv r2)), (17, .int .i64 (r2.length : Int)), (18, .int .i64 0)]) (ml := []) (eC rfl (eC rfl (eC rfl (eC rfl (eC rfl eN))))) mN rfl (prK rfl)) (Wk.trans (Wk.ownL (el' := [(2, .sptr [.lst 3 (List.map GStamp.lv p0)]), (6, .arr 129 (List.length ([] : List Int))), (16, .lst 2 (List.map stamp_group.lv r2)), (17, .int .i64 (r2.length : Int)), (18, .int .i64 0)]) 129 3 1 rfl rfl (wK (wO (wK (wK (wK wN)))))) (Wk.to (el := [(2, .sptr [.lst 3 (List.map GStamp.lv p0)]), (6, .arr 129 (List.length ([] : List Int))), (16, .lst 2 (List.map stamp_group.lv r2)), (17, .int .i64 (r2.length : Int)), (18, .int .i64 0)]) (ml := [(129, .arr 3 1 (List.map (LV.int .i64) ([] : List Int)))]) (eC rfl (eC rfl (eC rfl (eC rfl (eC rfl eN))))) (mC rfl mN) rfl (prK rfl)))))) ?_
  refine LH.loop (fun n e m => ∃ (n3 : Int) (l4 : List Int), stamp_Canonical_L1 F p0 r2 n n3 l4 = some r ∧ e = Env.of [(2, .sptr [.lst 3 (List.map GStamp.lv p0)]), (6, .arr 129 (List.length l4)), (16, .lst 2 (List.map stamp_group.lv r2)), (17, .int .i64 (r2.length : Int)), (18, .int .i64 n3)] ∧ m = Mem.of [(129, .arr 3 1 (List.map (LV.int .i64) l4))]) F ⟨0, ([] : List Int), h, rfl, rfl⟩ ?_
  clear h
  rintro n e m ⟨n3, l4, h, rfl, rfl⟩
  rcases n with _ | n
  · cases (show Option.none = some _ from h)
  obtain ⟨rec1, hrec1⟩ : ∃ f, f = stamp_Canonical_L1 F p0 r2 n := ⟨_, rfl⟩
  replace h : stamp_Canonical_L1_B F p0 r2 rec1 n3 l4 = some r := hrec1 ▸ h
  unfold stamp_Canonical_L1_B at h
  refine LH.seqT [(2, .sptr [.lst 3 (List.map GStamp.lv p0)]), (6, .arr 129 (List.length l4)), (16, .lst 2 (List.map stamp_group.lv r2)), (17, .int .i64 (r2.length : Int)), (18, .int .i64 n3), (19, .bool (decide (n3 < (r2.length : Int))))] [(129, .arr 3 1 (List.map (LV.int .i64) l4))] rfl ?_ ?_
  · refine sN (oLt rfl rfl ?_)
    exact s0 (Wk.to (eC rfl (eC rfl (eC rfl (eC rfl (eC rfl (eC rfl eN)))))) (mC rfl mN) rfl (prK rfl))
  refine LH.seq ?_
  refine LH.cond (t := (decide (n3 < (r2.length : Int)))) rfl (fun hc5 => ?_) (fun hc5 => ?_)
  · replace h := iteT h hc5
    refine LH.skip ?_
    refine thenN ?_
    refine LH.wk (Wk.to (el := [(2, .sptr [.lst 3 (List.map GStamp.lv p0)]), (6, .arr 129 (List.length l4)), (16, .lst 2 (List.map stamp_group.lv r2)), (17, .int .i64 (r2.length : Int)), (18, .int .i64 n3)]) (ml := [(129, .arr 3 1 (List.map (LV.int .i64) l4))]) (eC rfl (eC rfl (eC rfl (eC rfl (eC rfl eN))))) (mC rfl mN) rfl (prK rfl)) ?_
    refine LH.seq ?_
    refine LH.block ?_
    obtain ⟨x6, hx6, h⟩ := bindS h
    refine LH.seqT [(2, .sptr [.lst 3 (List.map GStamp.lv p0)]), (6, .arr 129 (List.length l4)), (8, .sptr [.int .i64 x6.first, .bool x6.disputed]), (16, .lst 2 (List.map stamp_group.lv r2)), (17, .int .i64 (r2.length : Int)), (18, .int .i64 n3)] [(129, .arr 3 1 (List.map (LV.int .i64) l4))] rfl ?_ ?_
    · refine sN (oIx (f := stamp_group.lv) te56 tk59 ts59 rfl rfl stamp_group.ok hx6 rfl ?_)
      refine sN (oLdA rfl tk59 ta59 ts59 rfl rfl ?_)
      refine sN (oAl (id := 108) rfl tz59 rfl rfl ?_)
      refine s_ (oSt rfl rfl rfl tk59 ts59 rfl rfl rfl ?_)
      exact s0 ((Wk.trans (Wk.to (el := [(2, .sptr [.lst 3 (List.map GStamp.lv p0)]), (6, .arr 129 (List.length l4)), (8, .ptr 108 0), (16, .lst 2 (List.map stamp_group.lv r2)), (17, .int .i64 (r2.length : Int)), (18, .int .i64 n3)]) (ml := [(108, .box [.int .i64 x6.first, .bool x6.disputed]), (129, .arr 3 1 (List.map (LV.int .i64) l4))]) (eC rfl (eC rfl (eC rfl (eC rfl (eC rfl (eC rfl eN)))))) (mC rfl (mC rfl mN)) rfl (prK rfl)) (Wk.trans (Wk.frzB 108 [.int .i64 x6.first, .bool x6.disputed] rfl rfl rfl (prN rfl)) (Wk.to (eC rfl (eC rfl (eC rfl (eC rfl (eC rfl (eC rfl eN)))))) (mC rfl mN) rfl (prK rfl)))))
    refine LH.seqT [(2, .sptr [.lst 3 (List.map GStamp.lv p0)]), (6, .arr 129 (List.length l4)), (8, .sptr [.int .i64 x6.first, .bool x6.disputed]), (16, .lst 2 (List.map stamp_group.lv r2)), (17, .int .i64 (r2.length : Int)), (18, .int .i64 n3), (24, .bool (!x6.disputed))] [(129, .arr 3 1 (List.map (LV.int .i64) l4))] rfl ?_ ?_
    · refine sN (oFaS tf59_1 tk4 ts4 rfl rfl rfl ?_)
      refine sN (oLd rfl tk4 ta4 ?_)
      refine sN (oNot rfl ?_)
      exact s0 (Wk.to (eC rfl (eC rfl (eC rfl (eC rfl (eC rfl (eC rfl (eC rfl eN))))))) (mC rfl mN) rfl (prK rfl))
    refine LH.cond (t := (!x6.disputed)) rfl (fun hc7 => ?_) (fun hc7 => ?_)
    · replace h := iteT h hc7
      obtain ⟨v8, hv8, h⟩ := bindS h
      refine LH.loneT [(2, .sptr [.lst 3 (List.map GStamp.lv p0)]), (6, .arr 129 (List.length v8)), (16, .lst 2 (List.map stamp_group.lv r2)), (17, .int .i64 (r2.length : Int)), (18, .int .i64 n3)] [(129, .arr 3 1 (List.map (LV.int .i64) v8))] rfl ?_ ?_
      · refine sN (oM (v := (.arr _ _)) rfl ?_)
        refine sN (oFaS tf59_0 tk3 ts3 rfl rfl rfl ?_)
        refine sN (oLd rfl tk3 ta3 ?_)
        refine sN (oBS (f := (LV.int .i64)) (ys := [x6.first]) te28 tr3 ts3 rfl rfl rfl okI ?_)
        refine sN (oAp (f := (LV.int .i64)) te28 tr3 ts3 rfl rfl (prN rfl) rfl hv8 ?_)
        refine sN (oA (v := (.arr _ _)) rfl ?_)
        exact s0 (Wk.to (eC rfl (eC rfl (eC rfl (eC rfl (eC rfl eN))))) (mC rfl mN) rfl (prK rfl))
      refine blockN ?_
      refine thenN ?_
      refine LH.loneT [(2, .sptr [.lst 3 (List.map GStamp.lv p0)]), (6, .arr 129 (List.length v8)), (16, .lst 2 (List.map stamp_group.lv r2)), (17, .int .i64 (r2.length : Int)), (18, .int .i64 (i64 (n3 + 1)))] [(129, .arr 3 1 (List.map (LV.int .i64) v8))] rfl ?_ ?_
      · refine sN (oAdd rfl rfl ?_)
        refine sN (oM (v := (.int _ _)) rfl ?_)
        exact s0 (Wk.to (eC rfl (eC rfl (eC rfl (eC rfl (eC rfl eN))))) (mC rfl mN) rfl (prK rfl))
      exact roundN (e' := Env.of [(2, .sptr [.lst 3 (List.map GStamp.lv p0)]), (6, .arr 129 (List.length v8)), (16, .lst 2 (List.map stamp_group.lv r2)), (17, .int .i64 (r2.length : Int)), (18, .int .i64 (i64 (n3 + 1)))]) (m' := Mem.of [(129, .arr 3 1 (List.map (LV.int .i64) v8))]) (Wk.to (eC rfl (eC rfl (eC rfl (eC rfl (eC rfl eN))))) (mC rfl mN) rfl (prK rfl)) ⟨(i64 (n3 + 1)), v8, hrec1 ▸ h, rfl, rfl⟩
    replace h := iteF h hc7
    refine LH.skip ?_
    refine blockN ?_
    refine thenN ?_
    refine LH.wk (Wk.to (el := [(2, .sptr [.lst 3 (List.map GStamp.lv p0)]), (6, .arr 129 (List.length l4)), (16, .lst 2 (List.map stamp_group.lv r2)), (17, .int .i64 (r2.length : Int)), (18, .int .i64 n3)]) (ml := [(129, .arr 3 1 (List.map (LV.int .i64) l4))]) (eC rfl (eC rfl (eC rfl (eC rfl (eC rfl eN))))) (mC rfl mN) rfl (prK rfl)) ?_
    refine LH.loneT [(2, .sptr [.lst 3 (List.map GStamp.lv p0)]), (6, .arr 129 (List.length l4)), (16, .lst 2 (List.map stamp_group.lv r2)), (17, .int .i64 (r2.length : Int)), (18, .int .i64 (i64 (n3 + 1)))] [(129, .arr 3 1 (List.map (LV.int .i64) l4))] rfl ?_ ?_
    · refine sN (oAdd rfl rfl ?_)
      refine sN (oM (v := (.int _ _)) rfl ?_)
      exact s0 (Wk.to (eC rfl (eC rfl (eC rfl (eC rfl (eC rfl eN))))) (mC rfl mN) rfl (prK rfl))
    exact roundN (e' := Env.of [(2, .sptr [.lst 3 (List.map GStamp.lv p0)]), (6, .arr 129 (List.length l4)), (16, .lst 2 (List.map stamp_group.lv r2)), (17, .int .i64 (r2.length : Int)), (18, .int .i64 (i64 (n3 + 1)))]) (m' := Mem.of [(129, .arr 3 1 (List.map (LV.int .i64) l4))]) (Wk.to (eC rfl (eC rfl (eC rfl (eC rfl (eC rfl eN))))) (mC rfl mN) rfl (prK rfl)) ⟨(i64 (n3 + 1)), l4, hrec1 ▸ h, rfl, rfl⟩
  replace h := iteF h hc5
  refine LH.exit ?_
  refine thenX ?_
  refine roundX ?_
  refine blockH ?_
  refine thenN ?_
  refine LH.wk (Wk.to (el := [(2, .sptr [.lst 3 (List.map GStamp.lv p0)]), (6, .arr 129 (List.length l4))]) (ml := [(129, .arr 3 1 (List.map (LV.int .i64) l4))]) (eC rfl (eC rfl eN)) (mC rfl mN) rfl (prK rfl)) ?_
  refine LH.seq ?_
  refine LH.seqT [(2, .sptr [.lst 3 (List.map GStamp.lv p0)]), (6, .arr 129 (List.length l4)), (33, .bool (decide ((l4.length : Int) > 300)))] [(129, .arr 3 1 (List.map (LV.int .i64) l4))] rfl ?_ ?_
  · refine sN (oM (v := (.arr _ _)) rfl ?_)
    refine sN (oLnA (f := (LV.int .i64)) te28 rfl rfl ?_)
    refine sN (oGt rfl rfl ?_)
    exact s0 (Wk.to (eC rfl (eC rfl (eC rfl eN))) (mC rfl mN) rfl (prK rfl))
  refine LH.cond (t := (decide ((l4.length : Int) > 300))) rfl (fun hc9 => ?_) (fun hc9 => ?_)
  · replace h := iteT h hc9
    refine LH.seqT [(4, .nil), (5, .int .i64 3)] [] rfl ?_ ?_
    · refine sN (oA (v := .nil) rfl ?_)
      refine sN (oA (v := (.int _ _)) rfl ?_)
      exact s0 (Wk.to (eC rfl (eC rfl eN)) mN rfl (prK rfl))
    refine LH.ret ?_
    refine thenR ?_
    obtain rfl := Option.some.inj h
    exact retE (congrArg Array.toList Try.results20) (lrT rfl (lrT rfl (lr0 ⟨memN mN, rfl, prK rfl, (Sub.tup (sbL (sbR sbN)))⟩)))
  replace h := iteF h hc9
  refine LH.skip ?_
  refine thenN ?_
  refine LH.wk (Wk.to (el := [(2, .sptr [.lst 3 (List.map GStamp.lv p0)]), (6, .arr 129 (List.length l4))]) (ml := [(129, .arr 3 1 (List.map (LV.int .i64) l4))]) (eC rfl (eC rfl eN)) (mC rfl mN) rfl (prK rfl)) ?_
  obtain ⟨l10, hl10, h⟩ := bindS h
  refine LH.seqT [(6, .lst 1 (List.map (LV.int .i64) l10))] [] rfl ?_ ?_
  · refine sN (oM (v := (.arr _ _)) rfl ?_)
    refine sN (oMF (vs := [.sptr [.lst 3 (List.map GStamp.lv p0)]]) rfl ?_)
    refine sN (oCM (args := [.arr 129 (List.length l4), .fn 39 [.sptr [.lst 3 (List.map GStamp.lv p0)]]]) (ml := [(129, .arr 3 1 (List.map (LV.int .i64) l4))]) (ml' := [(129, .arr 3 1 (List.map (LV.int .i64) l10))]) rfl isF38 rfl (sbR (sbR sbN)) (sortI_ok Try.sortL rfl isF39 rfl (fun _ _ _ h => stamp_Canonical_1_ok h) 129 3 hl10) (mC rfl mN) (newI rfl newN) rfl ?_)
    exact s0 ((Wk.trans (Wk.to (el := [(6, .arr 129 (List.length l10))]) (ml := [(129, .arr 3 1 (List.map (LV.int .i64) l10))]) (eC (congrArg (LV.arr 129) (sortF_len hl10)) eN) (mC rfl mN) rfl (prK rfl)) (Wk.trans (Wk.frzL (f := (LV.int .i64)) (el' := [(6, .lst 1 (List.map (LV.int .i64) l10))]) 129 3 1 l10 rfl rfl (prN rfl) (fZ fN)) (Wk.to (eC rfl eN) mN rfl (prK rfl)))))
  refine LH.seqT [(4, .lst 1 (List.map (LV.int .i64) l10)), (5, .int .i64 0)] [] rfl ?_ ?_
  · refine sN (oM (v := (.lst _ _)) rfl ?_)
    refine sN (oA (v := (.lst _ _)) rfl ?_)
    refine sN (oA (v := (.int _ _)) rfl ?_)
    exact s0 (Wk.to (eC rfl (eC rfl eN)) mN rfl (prK rfl))
  refine LH.ret ?_
  obtain rfl := Option.some.inj h
  exact retE (congrArg Array.toList Try.results20) (lrT rfl (lrT rfl (lr0 ⟨memN mN, rfl, prK rfl, (Sub.tup (sbR (sbR sbN)))⟩)))

theorem stamp_Known_ok {F : Nat} {p0 : List GStamp} {p1 : List Int} {p2 : Int} {r : List Int × Int} (h : stamp_Known F p0 p1 p2 = some r) : LCall Try.prog 24 [.lst 3 (List.map GStamp.lv p0), .lst 1 (List.map (LV.int .i64) p1), .int .i64 p2] (Mem.of []) (.tup [.lst 1 (List.map (LV.int .i64) r.1), .int .i64 r.2]) (Mem.of []) := by
  unfold stamp_Known at h
  refine bodyT Try.func24 rfl (by rw [Try.ntmps24]; exact Nat.le_of_ble_eq_true rfl) ?_
  refine LH.wk (Wk.to (el := [(0, .lst 3 (List.map GStamp.lv p0)), (1, .lst 1 (List.map (LV.int .i64) p1)), (2, .int .i64 p2)]) (ml := []) (eC rfl (eC rfl (eC rfl eN))) mN rfl (prK rfl)) ?_
  refine LH.seqT [(0, .lst 3 (List.map GStamp.lv p0)), (1, .lst 1 (List.map (LV.int .i64) p1)), (2, .int .i64 p2)] [] rfl ?_ ?_
  · refine sN (oA (v := .nil) rfl ?_)
    refine sN (oA (v := (.int _ _)) rfl ?_)
    exact s0 (Wk.to (eC rfl (eC rfl (eC rfl eN))) mN rfl (prK rfl))
  refine LH.seq ?_
  refine LH.seqT [(0, .lst 3 (List.map GStamp.lv p0)), (1, .lst 1 (List.map (LV.int .i64) p1)), (2, .int .i64 p2), (12, .bool ((p0.length : Int) != (p1.length : Int)))] [] rfl ?_ ?_
  · refine sN (oM (v := (.lst _ _)) rfl ?_)
    refine sN (oLnL (f := GStamp.lv) te31 rfl ?_)
    refine sN (oM (v := (.lst _ _)) rfl ?_)
    refine sN (oLnL (f := (LV.int .i64)) te28 rfl ?_)
    refine sN (oNe rfl rfl ?_)
    exact s0 (Wk.to (eC rfl (eC rfl (eC rfl (eC rfl eN)))) mN rfl (prK rfl))
  refine LH.cond (t := ((p0.length : Int) != (p1.length : Int))) rfl (fun hc1 => ?_) (fun hc1 => ?_)
  · replace h := iteT h hc1
    refine LH.seqT [(6, .nil), (7, .int .i64 1)] [] rfl ?_ ?_
    · refine sN (oA (v := .nil) rfl ?_)
      refine sN (oA (v := (.int _ _)) rfl ?_)
      exact s0 (Wk.to (eC rfl (eC rfl eN)) mN rfl (prK rfl))
    refine LH.ret ?_
    refine thenR ?_
    obtain rfl := Option.some.inj h
    exact retE (congrArg Array.toList Try.results24) (lrT rfl (lrT rfl (lr0 ⟨memN mN, rfl, prK rfl, (Sub.tup (sbL (sbR sbN)))⟩)))
  replace h := iteF h hc1
  refine LH.skip ?_
  refine thenN ?_
  refine LH.wk (Wk.to (el := [(0, .lst 3 (List.map GStamp.lv p0)), (1, .lst 1 (List.map (LV.int .i64) p1)), (2, .int .i64 p2)]) (ml := []) (eC rfl (eC rfl (eC rfl eN))) mN rfl (prK rfl)) ?_
  refine LH.seq ?_
  refine LH.seqT [(0, .lst 3 (List.map GStamp.lv p0)), (1, .lst 1 (List.map (LV.int .i64) p1)), (2, .int .i64 p2), (20, .bool ((decide (p2 < 0)) || (decide (p2 > (p0.length : Int)))))] [] rfl ?_ ?_
  · refine sN (oM (v := (.int _ _)) rfl ?_)
    refine sN (oLt rfl rfl ?_)
    refine sN (oM (v := (.bool _)) rfl ?_)
    by_cases hb3 : (decide (p2 < 0)) = true
    · refine sF rfl rfl hb3 ?_
      refine sF rfl rfl hb3 ?_
      refine sF rfl rfl hb3 ?_
      refine sF rfl rfl hb3 ?_
      refine sN (oPkT (congrArg LV.bool hb3) (v := (.bool _)) rfl ?_)
      exact s0 (Wk.to (eC rfl (eC rfl (eC rfl (eC (congrArg LV.bool (orT hb3)) eN)))) mN rfl (prK rfl))
    · replace hb3 := bF hb3
      refine sT rfl (congrArg LV.bool hb3) (oM (v := (.int _ _)) rfl ?_)
      refine sT rfl (congrArg LV.bool hb3) (oM (v := (.lst _ _)) rfl ?_)
      refine sT rfl (congrArg LV.bool hb3) (oLnL (f := GStamp.lv) te31 rfl ?_)
      refine sT rfl (congrArg LV.bool hb3) (oGt rfl rfl ?_)
      refine sN (oPkF (congrArg LV.bool hb3) (v := (.bool _)) rfl ?_)
      exact s0 (Wk.to (eC rfl (eC rfl (eC rfl (eC (congrArg LV.bool (orF hb3)) eN)))) mN rfl (prK rfl))
  refine LH.cond (t := ((decide (p2 < 0)) || (decide (p2 > (p0.length : Int))))) rfl (fun hc4 => ?_) (fun hc4 => ?_)
  · replace h := iteT h hc4
    refine LH.seqT [(6, .nil), (7, .int .i64 2)] [] rfl ?_ ?_
    · refine sN (oA (v := .nil) rfl ?_)
      refine sN (oA (v := (.int _ _)) rfl ?_)
      exact s0 (Wk.to (eC rfl (eC rfl eN)) mN rfl (prK rfl))
    refine LH.ret ?_
    refine thenR ?_
    obtain rfl := Option.some.inj h
    exact retE (congrArg Array.toList Try.results24) (lrT rfl (lrT rfl (lr0 ⟨memN mN, rfl, prK rfl, (Sub.tup (sbL (sbR sbN)))⟩)))
  replace h := iteF h hc4
  refine LH.skip ?_
  refine thenN ?_
  refine LH.wk (Wk.to (el := [(0, .lst 3 (List.map GStamp.lv p0)), (1, .lst 1 (List.map (LV.int .i64) p1)), (2, .int .i64 p2)]) (ml := []) (eC rfl (eC rfl (eC rfl eN))) mN rfl (prK rfl)) ?_
  obtain ⟨v5, hv5, h⟩ := bindS h
  obtain ⟨v6, hv6, h⟩ := bindS h
  obtain ⟨r7, hr7, h⟩ := bindS h
  refine LH.seqJM mixed [] [0, 0, 0, 0, 0, 0, 0, 0, 0, 0, 0] [(6, .lst 1 (List.map (LV.int .i64) r7.1)), (7, .int .i64 r7.2)] [] rfl rfl (by kernel_rfl) ?_ ?_
  · refine mN0 (oM (v := (.lst _ _)) rfl ⟨rfl, ?_⟩)
    refine mN0 (oM (v := (.int _ _)) rfl ⟨rfl, ?_⟩)
    refine mN0 (oSl (f := GStamp.lv) te31 tk23 ts23 rfl rfl rfl hv5 ⟨rfl, ?_⟩)
    refine mN0 (oM (v := (.lst _ _)) rfl ⟨rfl, ?_⟩)
    refine mN0 (oM (v := (.int _ _)) rfl ⟨rfl, ?_⟩)
    refine mN0 (oSl (f := (LV.int .i64)) te28 tk3 ts3 rfl rfl rfl hv6 ⟨rfl, ?_⟩)
    refine mN0 (oCP (args := [.lst 3 (List.map GStamp.lv v5), .lst 1 (List.map (LV.int .i64) v6)]) rfl isF20 rfl (sbR (sbR sbN)) (stamp_Canonical_ok hr7) rfl ⟨rfl, ?_⟩)
    refine mN0 (oEx rfl rfl ⟨rfl, ?_⟩)
    refine mN0 (oEx rfl rfl ⟨rfl, ?_⟩)
    refine mN0 (oA (v := (.lst _ _)) rfl ⟨rfl, ?_⟩)
    refine mN0 (oA (v := (.int _ _)) rfl ⟨rfl, ?_⟩)
    exact m0 (Wk.to (eC rfl (eC rfl eN)) mN rfl (prK rfl))
  refine LH.ret ?_
  obtain rfl := Option.some.inj h
  exact retE (congrArg Array.toList Try.results24) (lrT rfl (lrT rfl (lr0 ⟨memN mN, rfl, prK rfl, (Sub.tup (sbR (sbR sbN)))⟩)))

theorem law02_same_ok {F : Nat} {p0 : List Int} {p1 : List Int} {r : Bool} (h : law02_same F p0 p1 = some r) : LCall Try.prog 22 [.lst 1 (List.map (LV.int .i64) p0), .lst 1 (List.map (LV.int .i64) p1)] (Mem.of []) (.bool r) (Mem.of []) := by
  unfold law02_same at h
  refine bodyT Try.func22 rfl (by rw [Try.ntmps22]; exact Nat.le_of_ble_eq_true rfl) ?_
  refine LH.wk (Wk.to (el := [(0, .lst 1 (List.map (LV.int .i64) p0)), (1, .lst 1 (List.map (LV.int .i64) p1))]) (ml := []) (eC rfl (eC rfl eN)) mN rfl (prK rfl)) ?_
  refine LH.seqT [(0, .lst 1 (List.map (LV.int .i64) p0)), (1, .lst 1 (List.map (LV.int .i64) p1))] [] rfl ?_ ?_
  · refine sN (oA (v := (.bool _)) rfl ?_)
    exact s0 (Wk.to (eC rfl (eC rfl eN)) mN rfl (prK rfl))
  refine LH.seq ?_
  refine LH.seqT [(0, .lst 1 (List.map (LV.int .i64) p0)), (1, .lst 1 (List.map (LV.int .i64) p1)), (10, .bool ((p0.length : Int) != (p1.length : Int)))] [] rfl ?_ ?_
  · refine sN (oM (v := (.lst _ _)) rfl ?_)
    refine sN (oLnL (f := (LV.int .i64)) te28 rfl ?_)
    refine sN (oM (v := (.lst _ _)) rfl ?_)
    refine sN (oLnL (f := (LV.int .i64)) te28 rfl ?_)
    refine sN (oNe rfl rfl ?_)
    exact s0 (Wk.to (eC rfl (eC rfl (eC rfl eN))) mN rfl (prK rfl))
  refine LH.cond (t := ((p0.length : Int) != (p1.length : Int))) rfl (fun hc1 => ?_) (fun hc1 => ?_)
  · replace h := iteT h hc1
    refine LH.seqT [(4, .bool false)] [] rfl ?_ ?_
    · refine sN (oA (v := (.bool _)) rfl ?_)
      exact s0 (Wk.to (eC rfl eN) mN rfl (prK rfl))
    refine LH.ret ?_
    refine thenR ?_
    obtain rfl := Option.some.inj h
    exact retE (congrArg Array.toList Try.results22) (lrT rfl (lr0 ⟨memN mN, rfl, prK rfl, Sub.rfl⟩))
  replace h := iteF h hc1
  refine LH.skip ?_
  refine thenN ?_
  refine LH.wk (Wk.to (el := [(0, .lst 1 (List.map (LV.int .i64) p0)), (1, .lst 1 (List.map (LV.int .i64) p1))]) (ml := []) (eC rfl (eC rfl eN)) mN rfl (prK rfl)) ?_
  refine LH.seq ?_
  refine LH.seqT [(0, .lst 1 (List.map (LV.int .i64) p0)), (1, .lst 1 (List.map (LV.int .i64) p1)), (5, .int .i64 0)] [] rfl ?_ ?_
  · refine sN (oA (v := (.int _ _)) rfl ?_)
    exact s0 (Wk.to (eC rfl (eC rfl (eC rfl eN))) mN rfl (prK rfl))
  refine LH.block ?_
  refine LH.loop (fun n e m => ∃ (n2 : Int), law02_same_L1 p0 p1 n n2 = some r ∧ e = Env.of [(0, .lst 1 (List.map (LV.int .i64) p0)), (1, .lst 1 (List.map (LV.int .i64) p1)), (5, .int .i64 n2)] ∧ m = Mem.of []) F ⟨0, h, rfl, rfl⟩ ?_
  clear h
  rintro n e m ⟨n2, h, rfl, rfl⟩
  rcases n with _ | n
  · cases (show Option.none = some _ from h)
  obtain ⟨rec1, hrec1⟩ : ∃ f, f = law02_same_L1 p0 p1 n := ⟨_, rfl⟩
  replace h : law02_same_L1_B p0 p1 rec1 n2 = some r := hrec1 ▸ h
  unfold law02_same_L1_B at h
  refine LH.seq ?_
  refine LH.seqT [(0, .lst 1 (List.map (LV.int .i64) p0)), (1, .lst 1 (List.map (LV.int .i64) p1)), (5, .int .i64 n2), (14, .bool (decide (n2 < (p0.length : Int))))] [] rfl ?_ ?_
  · refine sN (oM (v := (.int _ _)) rfl ?_)
    refine sN (oM (v := (.lst _ _)) rfl ?_)
    refine sN (oLnL (f := (LV.int .i64)) te28 rfl ?_)
    refine sN (oLt rfl rfl ?_)
    exact s0 (Wk.to (eC rfl (eC rfl (eC rfl (eC rfl eN)))) mN rfl (prK rfl))
  refine LH.cond (t := (decide (n2 < (p0.length : Int)))) rfl (fun hc3 => ?_) (fun hc3 => ?_)
  · replace h := iteT h hc3
    refine LH.skip ?_
    refine thenN ?_
    refine LH.wk (Wk.to (el := [(0, .lst 1 (List.map (LV.int .i64) p0)), (1, .lst 1 (List.map (LV.int .i64) p1)), (5, .int .i64 n2)]) (ml := []) (eC rfl (eC rfl (eC rfl eN))) mN rfl (prK rfl)) ?_
    refine LH.seq ?_
    refine LH.block ?_
    obtain ⟨x4, hx4, h⟩ := bindS h
    obtain ⟨x5, hx5, h⟩ := bindS h
    refine LH.seqJM mixed [] [0, 0, 0, 0, 0, 0, 0, 0, 0] [(0, .lst 1 (List.map (LV.int .i64) p0)), (1, .lst 1 (List.map (LV.int .i64) p1)), (5, .int .i64 n2), (25, .bool (x4 != x5))] [] rfl rfl (by kernel_rfl) ?_ ?_
    · refine mN0 (oM (v := (.lst _ _)) rfl ⟨rfl, ?_⟩)
      refine mN0 (oM (v := (.int _ _)) rfl ⟨rfl, ?_⟩)
      refine mN0 (oIx (f := (LV.int .i64)) te28 tk3 ts3 rfl rfl okI hx4 rfl ⟨rfl, ?_⟩)
      refine mN0 (oLd rfl tk3 ta3 ⟨rfl, ?_⟩)
      refine mN0 (oM (v := (.lst _ _)) rfl ⟨rfl, ?_⟩)
      refine mN0 (oM (v := (.int _ _)) rfl ⟨rfl, ?_⟩)
      refine mN0 (oIx (f := (LV.int .i64)) te28 tk3 ts3 rfl rfl okI hx5 rfl ⟨rfl, ?_⟩)
      refine mN0 (oLd rfl tk3 ta3 ⟨rfl, ?_⟩)
      refine mN0 (oNe rfl rfl ⟨rfl, ?_⟩)
      exact m0 (Wk.to (eC rfl (eC rfl (eC rfl (eC rfl eN)))) mN rfl (prK rfl))
    refine LH.cond (t := (x4 != x5)) rfl (fun hc6 => ?_) (fun hc6 => ?_)
    · replace h := iteT h hc6
      refine LH.seqT [(4, .bool false)] [] rfl ?_ ?_
      · refine sN (oA (v := (.bool _)) rfl ?_)
        exact s0 (Wk.to (eC rfl eN) mN rfl (prK rfl))
      refine LH.ret ?_
      refine blockR ?_
      refine thenR ?_
      refine roundR ?_
      refine blockR ?_
      refine thenR ?_
      obtain rfl := Option.some.inj h
      exact retE (congrArg Array.toList Try.results22) (lrT rfl (lr0 ⟨memN mN, rfl, prK rfl, Sub.rfl⟩))
    replace h := iteF h hc6
    refine LH.skip ?_
    refine blockN ?_
    refine thenN ?_
    refine LH.wk (Wk.to (el := [(0, .lst 1 (List.map (LV.int .i64) p0)), (1, .lst 1 (List.map (LV.int .i64) p1)), (5, .int .i64 n2)]) (ml := []) (eC rfl (eC rfl (eC rfl eN))) mN rfl (prK rfl)) ?_
    refine LH.loneT [(0, .lst 1 (List.map (LV.int .i64) p0)), (1, .lst 1 (List.map (LV.int .i64) p1)), (5, .int .i64 (i64 (n2 + 1)))] [] rfl ?_ ?_
    · refine sN (oM (v := (.int _ _)) rfl ?_)
      refine sN (oAdd rfl rfl ?_)
      refine sN (oA (v := (.int _ _)) rfl ?_)
      exact s0 (Wk.to (eC rfl (eC rfl (eC rfl eN))) mN rfl (prK rfl))
    exact roundN (e' := Env.of [(0, .lst 1 (List.map (LV.int .i64) p0)), (1, .lst 1 (List.map (LV.int .i64) p1)), (5, .int .i64 (i64 (n2 + 1)))]) (m' := Mem.of []) (Wk.to (eC rfl (eC rfl (eC rfl eN))) mN rfl (prK rfl)) ⟨(i64 (n2 + 1)), hrec1 ▸ h, rfl, rfl⟩
  replace h := iteF h hc3
  refine LH.exit ?_
  refine thenX ?_
  refine roundX ?_
  refine blockH ?_
  refine thenN ?_
  refine LH.wk (Wk.to (el := []) (ml := []) eN mN rfl (prK rfl)) ?_
  refine LH.seqT [(4, .bool true)] [] rfl ?_ ?_
  · refine sN (oA (v := (.bool _)) rfl ?_)
    exact s0 (Wk.to (eC rfl eN) mN rfl (prK rfl))
  refine LH.ret ?_
  obtain rfl := Option.some.inj h
  exact retE (congrArg Array.toList Try.results22) (lrT rfl (lr0 ⟨memN mN, rfl, prK rfl, Sub.rfl⟩))

end Go.Proofs.Ytdkhlkihhdjbbaa
