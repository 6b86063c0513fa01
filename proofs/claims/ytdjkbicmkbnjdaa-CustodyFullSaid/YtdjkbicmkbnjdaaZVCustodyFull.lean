import Derived.Test.YtdjkbicmkbnjdaaZW2
set_option linter.unusedVariables false
set_option linter.unusedSimpArgs false
set_option maxRecDepth 100000
namespace Go.Proofs.Ytdjkbicmkbnjdaa
open Go.L Go.Sh
theorem custody_inRange_1_ok {p0 : Int} {r : Bool} (h : custody_inRange_1 p0 = some r) : LCall Try.prog 64 [.I p0] (Mem.of []) (.bool r) (Mem.of []) := by
  unfold custody_inRange_1 at h
  refine bodyT Try.func64 rfl (by rw [Try.ntmps64]; exact Nat.le_of_ble_eq_true rfl) ?_
  refine LH.wk (Wk.eq (el := [(0, .I p0)]) (ml := []) rfl rfl rfl rfl) ?_
  refine LH.seqT [(0, .I p0)] [] rfl ?_ ?_
  ·refine sAb rfl ?_
   exact s0 (Wk.eq rfl rfl rfl rfl)
  obtain ⟨r1, hr1, h⟩ := bindS h
  refine LH.seqT [(2, .bool (!r1))] [] rfl ?_ ?_
  ·refine sMi rfl ?_
   refine sN (oCP (args := [.I p0]) rfl isF65 rfl (sbR sbN) (custody_isSeal_ok hr1) rfl ?_)
   refine sN (oNot rfl ?_)
   refine sAb rfl ?_
   exact s0 (Wk.eq rfl rfl rfl rfl)
  refine LH.ret ?_
  obtain rfl := Option.some.inj h
  exact retE (congrArg Array.toList Try.results64) (lrT rfl (lr0 ⟨memN mN, rfl, prK rfl, Sub.rfl⟩))

theorem custody_inRange_ok {F : Nat} {p0 : GBag} {r : Bool} (h : custody_inRange F p0 = some r) : LCall Try.prog 40 [.agg [.I p0.Bag, .I p0.Holder, .bool p0.Open, .L p0.Seals, .L p0.Packed, .L p0.Found]] (Mem.of []) (.bool r) (Mem.of []) := by
  unfold custody_inRange at h
  refine bodyT Try.func40 rfl (by rw [Try.ntmps40]; exact Nat.le_of_ble_eq_true rfl) ?_
  refine LH.wk (Wk.eq (el := [(0, .agg [.I p0.Bag, .I p0.Holder, .bool p0.Open, .L p0.Seals, .L p0.Packed, .L p0.Found])]) (ml := []) rfl rfl rfl rfl) ?_
  refine LH.seqT [(1, .sptr [.I p0.Bag, .I p0.Holder, .bool p0.Open, .L p0.Seals, .L p0.Packed, .L p0.Found])] [] rfl ?_ ?_
  ·refine sB (oBxR rfl rfl rfl rfl ?_)
   refine sAb rfl ?_
   exact s0 (Wk.eq rfl rfl rfl rfl)
  refine LH.seq ?_
  obtain ⟨w2, hv, h⟩ := bindS h
  refine LH.seqT [(1, .sptr [.I p0.Bag, .I p0.Holder, .bool p0.Open, .L p0.Seals, .L p0.Packed, .L p0.Found]), (24, .bool w2)] [] rfl ?_ ?_
  ·refine sN (oFaS tf46_0 tk3 ts3 rfl rfl rfl ?_)
   refine sN (oLd rfl tk3 ta3 ?_)
   obtain ⟨r3, hr3, hv⟩ := bindS hv
   refine sN (oCP (args := [.I p0.Bag]) rfl isF61 rfl (sbR sbN) (custody_isBag_ok hr3) rfl ?_)
   refine sN (oNot rfl ?_)
   refine sMb rfl ?_
   by_cases hb4 : (!r3) = true
   ·replace hv := iteT hv hb4
    refine sF rfl rfl hb4 ?_
    refine sF rfl rfl hb4 ?_
    refine sF rfl rfl hb4 ?_
    refine sF rfl rfl hb4 ?_
    refine sN (oPkT (congrArg LV.bool hb4) (v := (.bool _)) rfl ?_)
    refine sMb rfl ?_
    refine sF rfl rfl rfl ?_
    refine sF rfl rfl rfl ?_
    refine sF rfl rfl rfl ?_
    refine sF rfl rfl rfl ?_
    refine sN (oPkT rfl (v := (.bool _)) rfl ?_)
    refine sMb rfl ?_
    refine sF rfl rfl rfl ?_
    refine sF rfl rfl rfl ?_
    refine sF rfl rfl rfl ?_
    refine sF rfl rfl rfl ?_
    refine sN (oPkT rfl (v := (.bool _)) rfl ?_)
    obtain rfl := Option.some.inj hv
    exact s0 (Wk.eq rfl rfl rfl rfl)
   ·replace hb4 := bF hb4
    replace hv := iteF hv hb4
    refine sT rfl (congrArg LV.bool hb4) (oFaS tf46_1 tk3 ts3 rfl rfl rfl ?_)
    refine sT rfl (congrArg LV.bool hb4) (oLd rfl tk3 ta3 ?_)
    obtain ⟨r5, hr5, hv⟩ := bindS hv
    refine sT rfl (congrArg LV.bool hb4) (oCP (args := [.I p0.Holder]) rfl isF62 rfl (sbR sbN) (custody_isHolder_ok hr5) rfl ?_)
    refine sT rfl (congrArg LV.bool hb4) (oNot rfl ?_)
    refine sN (oPkF (congrArg LV.bool hb4) (v := (.bool _)) rfl ?_)
    refine sMb rfl ?_
    by_cases hb6 : (!r5) = true
    ·replace hv := iteT hv hb6
     refine sF rfl rfl hb6 ?_
     refine sF rfl rfl hb6 ?_
     refine sF rfl rfl hb6 ?_
     refine sF rfl rfl hb6 ?_
     refine sN (oPkT (congrArg LV.bool hb6) (v := (.bool _)) rfl ?_)
     refine sMb rfl ?_
     refine sF rfl rfl rfl ?_
     refine sF rfl rfl rfl ?_
     refine sF rfl rfl rfl ?_
     refine sF rfl rfl rfl ?_
     refine sN (oPkT rfl (v := (.bool _)) rfl ?_)
     obtain rfl := Option.some.inj hv
     exact s0 (Wk.eq rfl rfl rfl rfl)
    ·replace hb6 := bF hb6
     replace hv := iteF hv hb6
     refine sT rfl (congrArg LV.bool hb6) (oFaS tf46_3 tk22 ts22 rfl rfl rfl ?_)
     refine sT rfl (congrArg LV.bool hb6) (oLd rfl tk22 ta22 ?_)
     refine sT rfl (congrArg LV.bool hb6) (oLnL (f := LV.I) te22 rfl ?_)
     refine sT rfl (congrArg LV.bool hb6) (oLt rfl rfl ?_)
     refine sN (oPkF (congrArg LV.bool hb6) (v := (.bool _)) rfl ?_)
     refine sMb rfl ?_
     by_cases hb7 : (decide ((p0.Seals.length : Int) < 1)) = true
     ·replace hv := iteT hv hb7
      refine sF rfl rfl hb7 ?_
      refine sF rfl rfl hb7 ?_
      refine sF rfl rfl hb7 ?_
      refine sF rfl rfl hb7 ?_
      refine sN (oPkT (congrArg LV.bool hb7) (v := (.bool _)) rfl ?_)
      obtain rfl := Option.some.inj hv
      exact s0 (Wk.eq rfl rfl rfl rfl)
     ·replace hb7 := bF hb7
      replace hv := iteF hv hb7
      refine sT rfl (congrArg LV.bool hb7) (oFaS tf46_3 tk22 ts22 rfl rfl rfl ?_)
      refine sT rfl (congrArg LV.bool hb7) (oLd rfl tk22 ta22 ?_)
      refine sT rfl (congrArg LV.bool hb7) (oLnL (f := LV.I) te22 rfl ?_)
      refine sT rfl (congrArg LV.bool hb7) (oGt rfl rfl ?_)
      refine sN (oPkF (congrArg LV.bool hb7) (v := (.bool _)) rfl ?_)
      obtain rfl := Option.some.inj hv
      exact s0 (Wk.eq rfl rfl rfl rfl)
  clear hv
  refine LH.cond (t := w2) rfl (fun hc8 => ?_) (fun hc8 => ?_)
  ·replace h := iteT h hc8
   refine LH.seqT [(2, .bool false)] [] rfl ?_ ?_
   ·refine sAb rfl ?_
    exact s0 (Wk.eq rfl rfl rfl rfl)
   refine LH.ret ?_
   refine thenR ?_
   obtain rfl := Option.some.inj h
   exact retE (congrArg Array.toList Try.results40) (lrT rfl (lr0 ⟨memN mN, rfl, prK rfl, Sub.rfl⟩))
  replace h := iteF h hc8
  refine LH.skip ?_
  refine thenN ?_
  obtain ⟨r9, hr9, h⟩ := bindS h
  refine LH.seqT [(2, .bool (!r9))] [] rfl ?_ ?_
  ·refine sN (oFaS tf46_3 tk22 ts22 rfl rfl rfl ?_)
   refine sN (oLd rfl tk22 ta22 ?_)
   refine sN (oCP (args := [.L p0.Seals, .fn 64 []]) rfl isF63 rfl (sbR (sbR sbN)) (slices_ContainsFunc_int_int_ok (p1_f := 64) (p1_c := []) isF64 rfl (fun _ _ h => custody_inRange_1_ok h) hr9) rfl ?_)
   refine sN (oNot rfl ?_)
   refine sAb rfl ?_
   exact s0 (Wk.eq rfl rfl rfl rfl)
  refine LH.ret ?_
  obtain rfl := Option.some.inj h
  exact retE (congrArg Array.toList Try.results40) (lrT rfl (lr0 ⟨memN mN, rfl, prK rfl, Sub.rfl⟩))

theorem custody_repeated_ok {F : Nat} {p0 : List GBag} {p1 : (GBag → Option (List Int))} {r : Bool} {p1_f : Nat} {p1_c : List LV} (p1_i : IsF Try.prog p1_f) (p1_q : LV.pureL p1_c = true) (p1_k : ∀ (x0 : GBag) (q : List Int), p1 x0 = some q → LCall Try.prog p1_f ([.agg [.I x0.Bag, .I x0.Holder, .bool x0.Open, .L x0.Seals, .L x0.Packed, .L x0.Found]] ++ p1_c) (Mem.of []) (.L q) (Mem.of [])) (h : custody_repeated F p0 p1 = some r) : LCall Try.prog 42 [.lst 6 (List.map GBag.lv p0), .fn p1_f p1_c] (Mem.of []) (.bool r) (Mem.of []) := by
  have p1_p : ∀ {l : List LV}, LV.pureL l = true → LV.pureL (l ++ p1_c) = true := pnC p1_q
  have p1_r : LV.refsL p1_c = [] := refsL_pure p1_q
  unfold custody_repeated at h
  refine bodyT Try.func42 rfl (by rw [Try.ntmps42]; exact Nat.le_of_ble_eq_true rfl) ?_
  refine LH.wk (Wk.to (el := [(0, .lst 6 (List.map GBag.lv p0)), (1, .fn p1_f p1_c)]) (ml := []) (eQ ⟨rfl, rfl, trivial⟩) mN (by simp [keptRefs, LV.refs, LV.refsL, LV.cells, lev, Env.args, Env.of, Env.put, Env.drop, p1_r]) (prK rfl)) ?_
  refine LH.seqT [(0, .lst 6 (List.map GBag.lv p0)), (1, .fn p1_f p1_c)] [] rfl ?_ ?_
  ·refine sAb rfl ?_
   exact s0 (Wk.to (eQ ⟨rfl, rfl, trivial⟩) mN (by simp [keptRefs, LV.refs, LV.refsL, LV.cells, lev, Env.args, Env.of, Env.put, Env.drop, p1_r]) (prK rfl))
  refine LH.seqT [(0, .lst 6 (List.map GBag.lv p0)), (1, .fn p1_f p1_c), (5, .mp 110)] [(110, .map 3 4 (mlv LV.I LV.bool ([] : List (Int × Bool))))] rfl ?_ ?_
  ·refine sX ((ok_makeMap (kt := 3) (vt := 4) (id := 110) rfl).ok) ?_
   refine sN (oA (v := (.mp _)) rfl ?_)
   exact s0 (Wk.to (eQ ⟨rfl, rfl, rfl, trivial⟩) ⟨rfl, trivial⟩ (by simp [keptRefs, LV.refs, LV.refsL, LV.cells, lev, Env.args, Env.of, Env.put, Env.drop, p1_r]) (prK rfl))
  refine LH.seq ?_
  refine LH.seqT [(1, .fn p1_f p1_c), (5, .mp 110), (11, .lst 6 (List.map GBag.lv p0)), (12, .I (p0.length : Int)), (13, .I 0)] [(110, .map 3 4 (mlv LV.I LV.bool ([] : List (Int × Bool))))] rfl ?_ ?_
  ·refine sMl rfl ?_
   refine sN (oLnL (f := GBag.lv) te39 rfl ?_)
   refine sMi rfl ?_
   exact s0 (Wk.to (eQ ⟨rfl, rfl, rfl, rfl, rfl, trivial⟩) ⟨rfl, trivial⟩ (by simp [keptRefs, LV.refs, LV.refsL, LV.cells, lev, Env.args, Env.of, Env.put, Env.drop, p1_r]) (prK rfl))
  refine LH.block ?_
  refine LH.loop (fun n e m => ∃ (n1 : Int) (m2 : List (Int × Bool)), custody_repeated_L1 F p0 p1 n n1 m2 = some r ∧ e = Env.of [(1, .fn p1_f p1_c), (5, .mp 110), (11, .lst 6 (List.map GBag.lv p0)), (12, .I (p0.length : Int)), (13, .I n1)] ∧ m = Mem.of [(110, .map 3 4 (mlv LV.I LV.bool m2))]) F ⟨0, ([] : List (Int × Bool)), h, rfl, rfl⟩ ?_
  clear h
  rintro n e m ⟨n1, m2, h, rfl, rfl⟩
  rcases n with _ | n
  · cases (show Option.none = some _ from h)
  obtain ⟨rec1, hrec1⟩ : ∃ f, f = custody_repeated_L1 F p0 p1 n := ⟨_, rfl⟩
  replace h : custody_repeated_L1_B F p0 p1 rec1 n1 m2 = some r := hrec1 ▸ h
  unfold custody_repeated_L1_B at h
  refine LH.seqT [(1, .fn p1_f p1_c), (5, .mp 110), (11, .lst 6 (List.map GBag.lv p0)), (12, .I (p0.length : Int)), (13, .I n1), (14, .bool (decide (n1 < (p0.length : Int))))] [(110, .map 3 4 (mlv LV.I LV.bool m2))] rfl ?_ ?_
  ·refine sN (oLt rfl rfl ?_)
   exact s0 (Wk.to (eQ ⟨rfl, rfl, rfl, rfl, rfl, rfl, trivial⟩) ⟨rfl, trivial⟩ (by simp [keptRefs, LV.refs, LV.refsL, LV.cells, lev, Env.args, Env.of, Env.put, Env.drop, p1_r]) (prK rfl))
  refine LH.seq ?_
  refine LH.cond (t := (decide (n1 < (p0.length : Int)))) rfl (fun hc3 => ?_) (fun hc3 => ?_)
  ·replace h := iteT h hc3
   refine LH.skip ?_
   refine thenN ?_
   refine LH.wk (Wk.to (el := [(1, .fn p1_f p1_c), (5, .mp 110), (11, .lst 6 (List.map GBag.lv p0)), (12, .I (p0.length : Int)), (13, .I n1)]) (ml := [(110, .map 3 4 (mlv LV.I LV.bool m2))]) (eQ ⟨rfl, rfl, rfl, rfl, rfl, trivial⟩) ⟨rfl, trivial⟩ (by simp [keptRefs, LV.refs, LV.refsL, LV.cells, lev, Env.args, Env.of, Env.put, Env.drop, p1_r]) (prK rfl)) ?_
   refine LH.seq ?_
   refine LH.block ?_
   obtain ⟨x4, hx4, h⟩ := bindS h
   refine LH.seqT [(1, .fn p1_f p1_c), (5, .mp 110), (7, .ptr 107 0), (11, .lst 6 (List.map GBag.lv p0)), (12, .I (p0.length : Int)), (13, .I n1)] [(107, .box [.I x4.Bag, .I x4.Holder, .bool x4.Open, .L x4.Seals, .L x4.Packed, .L x4.Found]), (110, .map 3 4 (mlv LV.I LV.bool m2))] rfl ?_ ?_
   ·refine sN (oIx (f := GBag.lv) te39 tk46 ts46 rfl rfl GBag.ok hx4 rfl ?_)
    refine sN (oLdA rfl tk46 ta46 ts46 rfl rfl ?_)
    refine sN (oAl (id := 107) rfl tz46 rfl rfl ?_)
    refine s_ (oSt rfl rfl rfl tk46 ts46 rfl rfl rfl ?_)
    exact s0 (Wk.to (eQ ⟨rfl, rfl, rfl, rfl, rfl, rfl, trivial⟩) ⟨rfl, rfl, trivial⟩ (by simp [keptRefs, LV.refs, LV.refsL, LV.cells, lev, Env.args, Env.of, Env.put, Env.drop, p1_r]) (prK rfl))
   obtain ⟨r5, hr5, h⟩ := bindS h
   refine LH.seqT [(1, .fn p1_f p1_c), (5, .mp 110), (11, .lst 6 (List.map GBag.lv p0)), (12, .I (p0.length : Int)), (13, .I n1), (19, .L r5), (20, .I (r5.length : Int)), (21, .I 0)] [(110, .map 3 4 (mlv LV.I LV.bool m2))] rfl ?_ ?_
   ·refine sN (oM (v := (.fn _ _)) rfl ?_)
    refine sN (oLdPA rfl rfl rfl tk46 ta46 ts46 rfl rfl ?_)
    refine sN (oCP (args := [.agg [.I x4.Bag, .I x4.Holder, .bool x4.Open, .L x4.Seals, .L x4.Packed, .L x4.Found]] ++ p1_c) (args' := [.agg [.I x4.Bag, .I x4.Holder, .bool x4.Open, .L x4.Seals, .L x4.Packed, .L x4.Found]] ++ p1_c) rfl p1_i rfl SubL.rfl (p1_k _ _ hr5) (p1_p rfl) ?_)
    refine sN (oLnL (f := LV.I) te22 rfl ?_)
    refine sMi rfl ?_
    exact s0 (Wk.to (eQ ⟨rfl, rfl, rfl, rfl, rfl, rfl, rfl, rfl, trivial⟩) ⟨rfl, trivial⟩ (by simp [keptRefs, LV.refs, LV.refsL, LV.cells, lev, Env.args, Env.of, Env.put, Env.drop, p1_r]) (prK rfl))
   refine LH.block ?_
   refine LH.loop (fun n e m => ∃ (n6 : Int) (m7 : List (Int × Bool)), custody_repeated_L2 rec1 n1 r5 n n6 m7 = some r ∧ e = Env.of [(1, .fn p1_f p1_c), (5, .mp 110), (11, .lst 6 (List.map GBag.lv p0)), (12, .I (p0.length : Int)), (13, .I n1), (19, .L r5), (20, .I (r5.length : Int)), (21, .I n6)] ∧ m = Mem.of [(110, .map 3 4 (mlv LV.I LV.bool m7))]) F ⟨0, m2, h, rfl, rfl⟩ ?_
   clear h
   rintro n e m ⟨n6, m7, h, rfl, rfl⟩
   rcases n with _ | n
   · cases (show Option.none = some _ from h)
   obtain ⟨rec2, hrec2⟩ : ∃ f, f = custody_repeated_L2 rec1 n1 r5 n := ⟨_, rfl⟩
   replace h : custody_repeated_L2_B rec1 n1 r5 rec2 n6 m7 = some r := hrec2 ▸ h
   unfold custody_repeated_L2_B at h
   refine LH.seqT [(1, .fn p1_f p1_c), (5, .mp 110), (11, .lst 6 (List.map GBag.lv p0)), (12, .I (p0.length : Int)), (13, .I n1), (19, .L r5), (20, .I (r5.length : Int)), (21, .I n6), (22, .bool (decide (n6 < (r5.length : Int))))] [(110, .map 3 4 (mlv LV.I LV.bool m7))] rfl ?_ ?_
   ·refine sN (oLt rfl rfl ?_)
    exact s0 (Wk.to (eQ ⟨rfl, rfl, rfl, rfl, rfl, rfl, rfl, rfl, rfl, trivial⟩) ⟨rfl, trivial⟩ (by simp [keptRefs, LV.refs, LV.refsL, LV.cells, lev, Env.args, Env.of, Env.put, Env.drop, p1_r]) (prK rfl))
   refine LH.seq ?_
   refine LH.cond (t := (decide (n6 < (r5.length : Int)))) rfl (fun hc8 => ?_) (fun hc8 => ?_)
   ·replace h := iteT h hc8
    refine LH.skip ?_
    refine thenN ?_
    refine LH.wk (Wk.to (el := [(1, .fn p1_f p1_c), (5, .mp 110), (11, .lst 6 (List.map GBag.lv p0)), (12, .I (p0.length : Int)), (13, .I n1), (19, .L r5), (20, .I (r5.length : Int)), (21, .I n6)]) (ml := [(110, .map 3 4 (mlv LV.I LV.bool m7))]) (eQ ⟨rfl, rfl, rfl, rfl, rfl, rfl, rfl, rfl, trivial⟩) ⟨rfl, trivial⟩ (by simp [keptRefs, LV.refs, LV.refsL, LV.cells, lev, Env.args, Env.of, Env.put, Env.drop, p1_r]) (prK rfl)) ?_
    refine LH.seq ?_
    refine LH.block ?_
    obtain ⟨x9, hx9, h⟩ := bindS h
    refine LH.seqT [(1, .fn p1_f p1_c), (5, .mp 110), (9, .I x9), (11, .lst 6 (List.map GBag.lv p0)), (12, .I (p0.length : Int)), (13, .I n1), (19, .L r5), (20, .I (r5.length : Int)), (21, .I n6)] [(110, .map 3 4 (mlv LV.I LV.bool m7))] rfl ?_ ?_
    ·refine sN (oIx (f := LV.I) te22 tk3 ts3 rfl rfl okI hx9 rfl ?_)
     refine sN (oLd rfl tk3 ta3 ?_)
     refine sAi rfl ?_
     exact s0 (Wk.to (eQ ⟨rfl, rfl, rfl, rfl, rfl, rfl, rfl, rfl, rfl, trivial⟩) ⟨rfl, trivial⟩ (by simp [keptRefs, LV.refs, LV.refsL, LV.cells, lev, Env.args, Env.of, Env.put, Env.drop, p1_r]) (prK rfl))
    refine LH.seq ?_
    refine LH.seqT [(1, .fn p1_f p1_c), (5, .mp 110), (9, .I x9), (11, .lst 6 (List.map GBag.lv p0)), (12, .I (p0.length : Int)), (13, .I n1), (19, .L r5), (20, .I (r5.length : Int)), (21, .I n6), (27, .bool ((mget m7 x9).getD false))] [(110, .map 3 4 (mlv LV.I LV.bool m7))] rfl ?_ ?_
    ·refine sN (oM (v := (.mp _)) rfl ?_)
     refine sMi rfl ?_
     refine sX ((ok_lookup (f := LV.I) (g := LV.bool) (xs := m7) (key := x9) (z := false) tm74 kok3 kf3 rfl rfl rfl tz4).ok) ?_
     exact s0 (Wk.to (eQ ⟨rfl, rfl, rfl, rfl, rfl, rfl, rfl, rfl, rfl, rfl, trivial⟩) ⟨rfl, trivial⟩ (by simp [keptRefs, LV.refs, LV.refsL, LV.cells, lev, Env.args, Env.of, Env.put, Env.drop, p1_r]) (prK rfl))
    refine LH.cond (t := ((mget m7 x9).getD false)) rfl (fun hc10 => ?_) (fun hc10 => ?_)
    ·replace h := iteT h hc10
     refine LH.seqT [(4, .bool true)] [] rfl ?_ ?_
     ·refine sAb rfl ?_
      exact s0 (Wk.to (eQ ⟨rfl, trivial⟩) mN (by simp [keptRefs, LV.refs, LV.refsL, LV.cells, lev, Env.args, Env.of, Env.put, Env.drop, p1_r]) (prK rfl))
     refine LH.ret ?_
     refine thenR ?_
     refine blockR ?_
     refine thenR ?_
     refine roundR ?_
     refine blockR ?_
     refine blockR ?_
     refine thenR ?_
     refine roundR ?_
     refine blockR ?_
     refine thenR ?_
     obtain rfl := Option.some.inj h
     exact retE (congrArg Array.toList Try.results42) (lrT rfl (lr0 ⟨memN mN, rfl, prK rfl, Sub.rfl⟩))
    replace h := iteF h hc10
    refine LH.skip ?_
    refine thenN ?_
    refine LH.loneT [(1, .fn p1_f p1_c), (5, .mp 110), (11, .lst 6 (List.map GBag.lv p0)), (12, .I (p0.length : Int)), (13, .I n1), (19, .L r5), (20, .I (r5.length : Int)), (21, .I n6)] [(110, .map 3 4 (mlv LV.I LV.bool (mput m7 x9 true)))] rfl ?_ ?_
    ·refine sN (oM (v := (.mp _)) rfl ?_)
     refine sMi rfl ?_
     refine sX_ ((ok_update (f := LV.I) (g := LV.bool) (xs := m7) (key := x9) (val := true) (.inl rfl) tm74 kok3 kf3 (fun _ => rfl) rfl rfl rfl rfl).ok) ?_
     exact s0 (Wk.to (eQ ⟨rfl, rfl, rfl, rfl, rfl, rfl, rfl, rfl, trivial⟩) ⟨rfl, trivial⟩ (by simp [keptRefs, LV.refs, LV.refsL, LV.cells, lev, Env.args, Env.of, Env.put, Env.drop, p1_r]) (prK rfl))
    refine blockN ?_
    refine thenN ?_
    refine LH.loneT [(1, .fn p1_f p1_c), (5, .mp 110), (11, .lst 6 (List.map GBag.lv p0)), (12, .I (p0.length : Int)), (13, .I n1), (19, .L r5), (20, .I (r5.length : Int)), (21, .I (i64 (n6 + 1)))] [(110, .map 3 4 (mlv LV.I LV.bool (mput m7 x9 true)))] rfl ?_ ?_
    ·refine sN (oAdd rfl rfl ?_)
     refine sMi rfl ?_
     exact s0 (Wk.to (eQ ⟨rfl, rfl, rfl, rfl, rfl, rfl, rfl, rfl, trivial⟩) ⟨rfl, trivial⟩ (by simp [keptRefs, LV.refs, LV.refsL, LV.cells, lev, Env.args, Env.of, Env.put, Env.drop, p1_r]) (prK rfl))
    exact roundI ⟨(i64 (n6 + 1)), (mput m7 x9 true), hrec2 ▸ h, rfl, rfl⟩ (Wk.to (eQ ⟨rfl, rfl, rfl, rfl, rfl, rfl, rfl, rfl, trivial⟩) ⟨rfl, trivial⟩ (by simp [keptRefs, LV.refs, LV.refsL, LV.cells, lev, Env.args, Env.of, Env.put, Env.drop, p1_r]) (prK rfl))
   replace h := iteF h hc8
   refine LH.exit ?_
   refine thenX ?_
   refine roundX ?_
   refine blockH ?_
   refine blockN ?_
   refine thenN ?_
   refine LH.loneT [(1, .fn p1_f p1_c), (5, .mp 110), (11, .lst 6 (List.map GBag.lv p0)), (12, .I (p0.length : Int)), (13, .I (i64 (n1 + 1)))] [(110, .map 3 4 (mlv LV.I LV.bool m7))] rfl ?_ ?_
   ·refine sN (oAdd rfl rfl ?_)
    refine sMi rfl ?_
    exact s0 (Wk.to (eQ ⟨rfl, rfl, rfl, rfl, rfl, trivial⟩) ⟨rfl, trivial⟩ (by simp [keptRefs, LV.refs, LV.refsL, LV.cells, lev, Env.args, Env.of, Env.put, Env.drop, p1_r]) (prK rfl))
   exact roundI ⟨(i64 (n1 + 1)), m7, hrec1 ▸ h, rfl, rfl⟩ (Wk.to (eQ ⟨rfl, rfl, rfl, rfl, rfl, trivial⟩) ⟨rfl, trivial⟩ (by simp [keptRefs, LV.refs, LV.refsL, LV.cells, lev, Env.args, Env.of, Env.put, Env.drop, p1_r]) (prK rfl))
  replace h := iteF h hc3
  refine LH.exit ?_
  refine thenX ?_
  refine roundX ?_
  refine blockH ?_
  refine thenN ?_
  refine LH.seqT [(4, .bool false)] [] rfl ?_ ?_
  ·refine sAb rfl ?_
   exact s0 (Wk.to (eQ ⟨rfl, trivial⟩) mN (by simp [keptRefs, LV.refs, LV.refsL, LV.cells, lev, Env.args, Env.of, Env.put, Env.drop, p1_r]) (prK rfl))
  refine LH.ret ?_
  obtain rfl := Option.some.inj h
  exact retE (congrArg Array.toList Try.results42) (lrT rfl (lr0 ⟨memN mN, rfl, prK rfl, Sub.rfl⟩))

theorem custody_Check_ok {F : Nat} {p0 : List GBag} {r : Int} (h : custody_Check F p0 = some r) : LCall Try.prog 24 [.lst 6 (List.map GBag.lv p0)] (Mem.of []) (.I r) (Mem.of []) := by
  unfold custody_Check at h
  refine bodyT Try.func24 rfl (by rw [Try.ntmps24]; exact Nat.le_of_ble_eq_true rfl) ?_
  refine LH.wk (Wk.eq (el := [(0, .lst 6 (List.map GBag.lv p0))]) (ml := []) rfl rfl rfl rfl) ?_
  refine LH.seqT [(0, .lst 6 (List.map GBag.lv p0))] [] rfl ?_ ?_
  ·refine sAi rfl ?_
   exact s0 (Wk.eq rfl rfl rfl rfl)
  refine LH.seq ?_
  refine LH.seqT [(0, .lst 6 (List.map GBag.lv p0)), (12, .bool (decide ((p0.length : Int) > 20)))] [] rfl ?_ ?_
  ·refine sMl rfl ?_
   refine sN (oLnL (f := GBag.lv) te39 rfl ?_)
   refine sN (oGt rfl rfl ?_)
   exact s0 (Wk.eq rfl rfl rfl rfl)
  refine LH.cond (t := (decide ((p0.length : Int) > 20))) rfl (fun hc1 => ?_) (fun hc1 => ?_)
  ·replace h := iteT h hc1
   refine LH.seqT [(2, .I 3)] [] rfl ?_ ?_
   ·refine sAi rfl ?_
    exact s0 (Wk.eq rfl rfl rfl rfl)
   refine LH.ret ?_
   refine thenR ?_
   obtain rfl := Option.some.inj h
   exact retE (congrArg Array.toList Try.results24) (lrT rfl (lr0 ⟨memN mN, rfl, prK rfl, Sub.rfl⟩))
  replace h := iteF h hc1
  refine LH.skip ?_
  refine thenN ?_
  refine LH.wk (Wk.eq (el := [(0, .lst 6 (List.map GBag.lv p0))]) (ml := []) rfl rfl rfl rfl) ?_
  refine LH.seq ?_
  refine LH.seqT [(0, .lst 6 (List.map GBag.lv p0)), (13, .lst 6 (List.map GBag.lv p0)), (14, .I (p0.length : Int)), (15, .I 0)] [] rfl ?_ ?_
  ·refine sMl rfl ?_
   refine sN (oLnL (f := GBag.lv) te39 rfl ?_)
   refine sMi rfl ?_
   exact s0 (Wk.eq rfl rfl rfl rfl)
  refine LH.block ?_
  refine LH.loop (fun n e m => ∃ (n2 : Int), custody_Check_L1 F p0 n n2 = some r ∧ e = Env.of [(0, .lst 6 (List.map GBag.lv p0)), (13, .lst 6 (List.map GBag.lv p0)), (14, .I (p0.length : Int)), (15, .I n2)] ∧ m = Mem.of []) F ⟨0, h, rfl, rfl⟩ ?_
  clear h
  rintro n e m ⟨n2, h, rfl, rfl⟩
  rcases n with _ | n
  · cases (show Option.none = some _ from h)
  obtain ⟨rec1, hrec1⟩ : ∃ f, f = custody_Check_L1 F p0 n := ⟨_, rfl⟩
  replace h : custody_Check_L1_B F p0 rec1 n2 = some r := hrec1 ▸ h
  unfold custody_Check_L1_B at h
  refine LH.seqT [(0, .lst 6 (List.map GBag.lv p0)), (13, .lst 6 (List.map GBag.lv p0)), (14, .I (p0.length : Int)), (15, .I n2), (16, .bool (decide (n2 < (p0.length : Int))))] [] rfl ?_ ?_
  ·refine sN (oLt rfl rfl ?_)
   exact s0 (Wk.eq rfl rfl rfl rfl)
  refine LH.seq ?_
  refine LH.cond (t := (decide (n2 < (p0.length : Int)))) rfl (fun hc3 => ?_) (fun hc3 => ?_)
  ·replace h := iteT h hc3
   refine LH.skip ?_
   refine thenN ?_
   refine LH.wk (Wk.eq (el := [(0, .lst 6 (List.map GBag.lv p0)), (13, .lst 6 (List.map GBag.lv p0)), (14, .I (p0.length : Int)), (15, .I n2)]) (ml := []) rfl rfl rfl rfl) ?_
   refine LH.seq ?_
   refine LH.block ?_
   obtain ⟨x4, hx4, h⟩ := bindS h
   refine LH.seqT [(0, .lst 6 (List.map GBag.lv p0)), (4, .sptr [.I x4.Bag, .I x4.Holder, .bool x4.Open, .L x4.Seals, .L x4.Packed, .L x4.Found]), (13, .lst 6 (List.map GBag.lv p0)), (14, .I (p0.length : Int)), (15, .I n2)] [] rfl ?_ ?_
   ·refine sN (oIx (f := GBag.lv) te39 tk46 ts46 rfl rfl GBag.ok hx4 rfl ?_)
    refine sN (oLdA rfl tk46 ta46 ts46 rfl rfl ?_)
    refine sN (oAl (id := 104) rfl tz46 rfl rfl ?_)
    refine s_ (oSt rfl rfl rfl tk46 ts46 rfl rfl rfl ?_)
    exact s0 ((Wk.trans (Wk.eq (el := [(0, .lst 6 (List.map GBag.lv p0)), (4, .ptr 104 0), (13, .lst 6 (List.map GBag.lv p0)), (14, .I (p0.length : Int)), (15, .I n2)]) (ml := [(104, .box [.I x4.Bag, .I x4.Holder, .bool x4.Open, .L x4.Seals, .L x4.Packed, .L x4.Found])]) rfl rfl rfl rfl) (Wk.trans (Wk.frzB 104 [.I x4.Bag, .I x4.Holder, .bool x4.Open, .L x4.Seals, .L x4.Packed, .L x4.Found] rfl rfl rfl (prN rfl)) (Wk.eq rfl rfl rfl rfl))))
   obtain ⟨r5, hr5, h⟩ := bindS h
   refine LH.seqT [(0, .lst 6 (List.map GBag.lv p0)), (13, .lst 6 (List.map GBag.lv p0)), (14, .I (p0.length : Int)), (15, .I n2), (21, .bool (!r5))] [] rfl ?_ ?_
   ·refine sN (oLdA rfl tk46 ta46 ts46 rfl rfl ?_)
    refine sN (oCP (args := [.agg [.I x4.Bag, .I x4.Holder, .bool x4.Open, .L x4.Seals, .L x4.Packed, .L x4.Found]]) rfl isF40 rfl (sbR sbN) (custody_inRange_ok hr5) rfl ?_)
    refine sN (oNot rfl ?_)
    exact s0 (Wk.eq rfl rfl rfl rfl)
   refine LH.cond (t := (!r5)) rfl (fun hc6 => ?_) (fun hc6 => ?_)
   ·replace h := iteT h hc6
    refine LH.seqT [(2, .I 2)] [] rfl ?_ ?_
    ·refine sAi rfl ?_
     exact s0 (Wk.eq rfl rfl rfl rfl)
    refine LH.ret ?_
    refine blockR ?_
    refine thenR ?_
    refine roundR ?_
    refine blockR ?_
    refine thenR ?_
    obtain rfl := Option.some.inj h
    exact retE (congrArg Array.toList Try.results24) (lrT rfl (lr0 ⟨memN mN, rfl, prK rfl, Sub.rfl⟩))
   replace h := iteF h hc6
   refine LH.skip ?_
   refine blockN ?_
   refine thenN ?_
   refine LH.loneT [(0, .lst 6 (List.map GBag.lv p0)), (13, .lst 6 (List.map GBag.lv p0)), (14, .I (p0.length : Int)), (15, .I (i64 (n2 + 1)))] [] rfl ?_ ?_
   ·refine sN (oAdd rfl rfl ?_)
    refine sMi rfl ?_
    exact s0 (Wk.eq rfl rfl rfl rfl)
   exact roundI ⟨(i64 (n2 + 1)), hrec1 ▸ h, rfl, rfl⟩ (Wk.eq rfl rfl rfl rfl)
  replace h := iteF h hc3
  refine LH.exit ?_
  refine thenX ?_
  refine roundX ?_
  refine blockH ?_
  refine thenN ?_
  refine LH.wk (Wk.eq (el := [(0, .lst 6 (List.map GBag.lv p0))]) (ml := []) rfl rfl rfl rfl) ?_
  refine LH.seq ?_
  refine LH.seqT [(0, .lst 6 (List.map GBag.lv p0)), (23, .lst 6 (List.map GBag.lv p0)), (24, .I (p0.length : Int)), (25, .I 0)] [] rfl ?_ ?_
  ·refine sMl rfl ?_
   refine sN (oLnL (f := GBag.lv) te39 rfl ?_)
   refine sMi rfl ?_
   exact s0 (Wk.eq rfl rfl rfl rfl)
  refine LH.block ?_
  refine LH.loop (fun n e m => ∃ (n7 : Int), custody_Check_L2 F p0 n n7 = some r ∧ e = Env.of [(0, .lst 6 (List.map GBag.lv p0)), (23, .lst 6 (List.map GBag.lv p0)), (24, .I (p0.length : Int)), (25, .I n7)] ∧ m = Mem.of []) F ⟨0, h, rfl, rfl⟩ ?_
  clear h
  rintro n e m ⟨n7, h, rfl, rfl⟩
  rcases n with _ | n
  · cases (show Option.none = some _ from h)
  obtain ⟨rec2, hrec2⟩ : ∃ f, f = custody_Check_L2 F p0 n := ⟨_, rfl⟩
  replace h : custody_Check_L2_B F p0 rec2 n7 = some r := hrec2 ▸ h
  unfold custody_Check_L2_B at h
  refine LH.seqT [(0, .lst 6 (List.map GBag.lv p0)), (23, .lst 6 (List.map GBag.lv p0)), (24, .I (p0.length : Int)), (25, .I n7), (26, .bool (decide (n7 < (p0.length : Int))))] [] rfl ?_ ?_
  ·refine sN (oLt rfl rfl ?_)
   exact s0 (Wk.eq rfl rfl rfl rfl)
  refine LH.seq ?_
  refine LH.cond (t := (decide (n7 < (p0.length : Int)))) rfl (fun hc8 => ?_) (fun hc8 => ?_)
  ·replace h := iteT h hc8
   refine LH.skip ?_
   refine thenN ?_
   refine LH.wk (Wk.eq (el := [(0, .lst 6 (List.map GBag.lv p0)), (23, .lst 6 (List.map GBag.lv p0)), (24, .I (p0.length : Int)), (25, .I n7)]) (ml := []) rfl rfl rfl rfl) ?_
   refine LH.seq ?_
   refine LH.block ?_
   obtain ⟨x9, hx9, h⟩ := bindS h
   refine LH.seqT [(0, .lst 6 (List.map GBag.lv p0)), (6, .sptr [.I x9.Bag, .I x9.Holder, .bool x9.Open, .L x9.Seals, .L x9.Packed, .L x9.Found]), (23, .lst 6 (List.map GBag.lv p0)), (24, .I (p0.length : Int)), (25, .I n7)] [] rfl ?_ ?_
   ·refine sN (oIx (f := GBag.lv) te39 tk46 ts46 rfl rfl GBag.ok hx9 rfl ?_)
    refine sN (oLdA rfl tk46 ta46 ts46 rfl rfl ?_)
    refine sN (oAl (id := 106) rfl tz46 rfl rfl ?_)
    refine s_ (oSt rfl rfl rfl tk46 ts46 rfl rfl rfl ?_)
    exact s0 ((Wk.trans (Wk.eq (el := [(0, .lst 6 (List.map GBag.lv p0)), (6, .ptr 106 0), (23, .lst 6 (List.map GBag.lv p0)), (24, .I (p0.length : Int)), (25, .I n7)]) (ml := [(106, .box [.I x9.Bag, .I x9.Holder, .bool x9.Open, .L x9.Seals, .L x9.Packed, .L x9.Found])]) rfl rfl rfl rfl) (Wk.trans (Wk.frzB 106 [.I x9.Bag, .I x9.Holder, .bool x9.Open, .L x9.Seals, .L x9.Packed, .L x9.Found] rfl rfl rfl (prN rfl)) (Wk.eq rfl rfl rfl rfl))))
   obtain ⟨w11, hv, h⟩ := bindS h
   refine LH.seqT [(0, .lst 6 (List.map GBag.lv p0)), (23, .lst 6 (List.map GBag.lv p0)), (24, .I (p0.length : Int)), (25, .I n7), (38, .bool w11)] [] rfl ?_ ?_
   ·refine sN (oFaS tf46_4 tk22 ts22 rfl rfl rfl ?_)
    refine sN (oLd rfl tk22 ta22 ?_)
    obtain ⟨r12, hr12, hv⟩ := bindS hv
    refine sN (oCP (args := [.L x9.Packed]) rfl isF41 rfl (sbR sbN) (custody_sorted_ok hr12) rfl ?_)
    refine sN (oNot rfl ?_)
    refine sMb rfl ?_
    by_cases hb13 : (!r12) = true
    ·replace hv := iteT hv hb13
     refine sF rfl rfl hb13 ?_
     refine sF rfl rfl hb13 ?_
     refine sF rfl rfl hb13 ?_
     refine sF rfl rfl hb13 ?_
     refine sN (oPkT (congrArg LV.bool hb13) (v := (.bool _)) rfl ?_)
     obtain rfl := Option.some.inj hv
     exact s0 (Wk.eq rfl rfl rfl rfl)
    ·replace hb13 := bF hb13
     replace hv := iteF hv hb13
     refine sT rfl (congrArg LV.bool hb13) (oFaS tf46_5 tk22 ts22 rfl rfl rfl ?_)
     refine sT rfl (congrArg LV.bool hb13) (oLd rfl tk22 ta22 ?_)
     obtain ⟨r14, hr14, hv⟩ := bindS hv
     refine sT rfl (congrArg LV.bool hb13) (oCP (args := [.L x9.Found]) rfl isF41 rfl (sbR sbN) (custody_sorted_ok hr14) rfl ?_)
     refine sT rfl (congrArg LV.bool hb13) (oNot rfl ?_)
     refine sN (oPkF (congrArg LV.bool hb13) (v := (.bool _)) rfl ?_)
     obtain rfl := Option.some.inj hv
     exact s0 (Wk.eq rfl rfl rfl rfl)
   clear hv
   refine LH.cond (t := w11) rfl (fun hc15 => ?_) (fun hc15 => ?_)
   ·replace h := iteT h hc15
    refine LH.seqT [(2, .I 1)] [] rfl ?_ ?_
    ·refine sAi rfl ?_
     exact s0 (Wk.eq rfl rfl rfl rfl)
    refine LH.ret ?_
    refine blockR ?_
    refine thenR ?_
    refine roundR ?_
    refine blockR ?_
    refine thenR ?_
    obtain rfl := Option.some.inj h
    exact retE (congrArg Array.toList Try.results24) (lrT rfl (lr0 ⟨memN mN, rfl, prK rfl, Sub.rfl⟩))
   replace h := iteF h hc15
   refine LH.skip ?_
   refine blockN ?_
   refine thenN ?_
   refine LH.loneT [(0, .lst 6 (List.map GBag.lv p0)), (23, .lst 6 (List.map GBag.lv p0)), (24, .I (p0.length : Int)), (25, .I (i64 (n7 + 1)))] [] rfl ?_ ?_
   ·refine sN (oAdd rfl rfl ?_)
    refine sMi rfl ?_
    exact s0 (Wk.eq rfl rfl rfl rfl)
   exact roundI ⟨(i64 (n7 + 1)), hrec2 ▸ h, rfl, rfl⟩ (Wk.eq rfl rfl rfl rfl)
  replace h := iteF h hc8
  refine LH.exit ?_
  refine thenX ?_
  refine roundX ?_
  refine blockH ?_
  refine thenN ?_
  refine LH.wk (Wk.eq (el := [(0, .lst 6 (List.map GBag.lv p0))]) (ml := []) rfl rfl rfl rfl) ?_
  refine LH.seq ?_
  refine LH.seqT [(0, .lst 6 (List.map GBag.lv p0)), (40, .lst 6 (List.map GBag.lv p0)), (41, .I (p0.length : Int)), (42, .I 0)] [] rfl ?_ ?_
  ·refine sMl rfl ?_
   refine sN (oLnL (f := GBag.lv) te39 rfl ?_)
   refine sMi rfl ?_
   exact s0 (Wk.eq rfl rfl rfl rfl)
  refine LH.block ?_
  refine LH.loop (fun n e m => ∃ (n16 : Int), custody_Check_L3 F p0 n n16 = some r ∧ e = Env.of [(0, .lst 6 (List.map GBag.lv p0)), (40, .lst 6 (List.map GBag.lv p0)), (41, .I (p0.length : Int)), (42, .I n16)] ∧ m = Mem.of []) F ⟨0, h, rfl, rfl⟩ ?_
  clear h
  rintro n e m ⟨n16, h, rfl, rfl⟩
  rcases n with _ | n
  · cases (show Option.none = some _ from h)
  obtain ⟨rec3, hrec3⟩ : ∃ f, f = custody_Check_L3 F p0 n := ⟨_, rfl⟩
  replace h : custody_Check_L3_B F p0 rec3 n16 = some r := hrec3 ▸ h
  unfold custody_Check_L3_B at h
  refine LH.seqT [(0, .lst 6 (List.map GBag.lv p0)), (40, .lst 6 (List.map GBag.lv p0)), (41, .I (p0.length : Int)), (42, .I n16), (43, .bool (decide (n16 < (p0.length : Int))))] [] rfl ?_ ?_
  ·refine sN (oLt rfl rfl ?_)
   exact s0 (Wk.eq rfl rfl rfl rfl)
  refine LH.seq ?_
  refine LH.cond (t := (decide (n16 < (p0.length : Int)))) rfl (fun hc17 => ?_) (fun hc17 => ?_)
  ·replace h := iteT h hc17
   refine LH.skip ?_
   refine thenN ?_
   refine LH.wk (Wk.eq (el := [(0, .lst 6 (List.map GBag.lv p0)), (40, .lst 6 (List.map GBag.lv p0)), (41, .I (p0.length : Int)), (42, .I n16)]) (ml := []) rfl rfl rfl rfl) ?_
   refine LH.seq ?_
   refine LH.block ?_
   obtain ⟨x18, hx18, h⟩ := bindS h
   refine LH.seqT [(0, .lst 6 (List.map GBag.lv p0)), (8, .sptr [.I x18.Bag, .I x18.Holder, .bool x18.Open, .L x18.Seals, .L x18.Packed, .L x18.Found]), (40, .lst 6 (List.map GBag.lv p0)), (41, .I (p0.length : Int)), (42, .I n16)] [] rfl ?_ ?_
   ·refine sN (oIx (f := GBag.lv) te39 tk46 ts46 rfl rfl GBag.ok hx18 rfl ?_)
    refine sN (oLdA rfl tk46 ta46 ts46 rfl rfl ?_)
    refine sN (oAl (id := 108) rfl tz46 rfl rfl ?_)
    refine s_ (oSt rfl rfl rfl tk46 ts46 rfl rfl rfl ?_)
    exact s0 ((Wk.trans (Wk.eq (el := [(0, .lst 6 (List.map GBag.lv p0)), (8, .ptr 108 0), (40, .lst 6 (List.map GBag.lv p0)), (41, .I (p0.length : Int)), (42, .I n16)]) (ml := [(108, .box [.I x18.Bag, .I x18.Holder, .bool x18.Open, .L x18.Seals, .L x18.Packed, .L x18.Found])]) rfl rfl rfl rfl) (Wk.trans (Wk.frzB 108 [.I x18.Bag, .I x18.Holder, .bool x18.Open, .L x18.Seals, .L x18.Packed, .L x18.Found] rfl rfl rfl (prN rfl)) (Wk.eq rfl rfl rfl rfl))))
   refine LH.seqT [(0, .lst 6 (List.map GBag.lv p0)), (40, .lst 6 (List.map GBag.lv p0)), (41, .I (p0.length : Int)), (42, .I n16), (63, .bool (if (!x18.Open) = true then ((decide ((x18.Found.length : Int) > 0)) || (x18.Open && (x18.Holder != 0))) else (x18.Open && (x18.Holder != 0))))] [] rfl ?_ ?_
   ·refine sN (oFaS tf46_2 tk4 ts4 rfl rfl rfl ?_)
    refine sN (oLd rfl tk4 ta4 ?_)
    refine sN (oNot rfl ?_)
    refine sMb rfl ?_
    by_cases hb20 : (!x18.Open) = true
    ·refine sT rfl (congrArg LV.bool hb20) (oFaS tf46_5 tk22 ts22 rfl rfl rfl ?_)
     refine sT rfl (congrArg LV.bool hb20) (oLd rfl tk22 ta22 ?_)
     refine sT rfl (congrArg LV.bool hb20) (oLnL (f := LV.I) te22 rfl ?_)
     refine sT rfl (congrArg LV.bool hb20) (oGt rfl rfl ?_)
     refine sN (oPkT (congrArg LV.bool hb20) (v := (.bool _)) rfl ?_)
     refine sMb rfl ?_
     by_cases hb21 : (decide ((x18.Found.length : Int) > 0)) = true
     ·refine sF rfl rfl hb21 ?_
      refine sF rfl rfl hb21 ?_
      refine sF rfl rfl hb21 ?_
      refine sU rfl rfl ?_
      refine sU rfl rfl ?_
      refine sU rfl rfl ?_
      refine sF rfl rfl hb21 ?_
      refine sN (oPkT (congrArg LV.bool hb21) (v := (.bool _)) rfl ?_)
      exact s0 (Wk.to (eC rfl (eC rfl (eC rfl (eC rfl (eC (congrArg LV.bool (Eq.trans (orT hb21) (itT hb20))) eN))))) mN rfl (prK rfl))
     ·replace hb21 := bF hb21
      refine sT rfl (congrArg LV.bool hb21) (oFaS tf46_2 tk4 ts4 rfl rfl rfl ?_)
      refine sT rfl (congrArg LV.bool hb21) (oLd rfl tk4 ta4 ?_)
      refine sT rfl (congrArg LV.bool hb21) (oM (v := (.bool _)) rfl ?_)
      by_cases hb22 : x18.Open = true
      ·refine sT rfl (congrArg LV.bool hb22) (oFaS tf46_1 tk3 ts3 rfl rfl rfl ?_)
       refine sT rfl (congrArg LV.bool hb22) (oLd rfl tk3 ta3 ?_)
       refine sT rfl (congrArg LV.bool hb22) (oNe rfl rfl ?_)
       refine sT rfl (congrArg LV.bool hb21) (oPkT (congrArg LV.bool hb22) (v := (.bool _)) rfl ?_)
       refine sN (oPkF (congrArg LV.bool hb21) (v := (.bool _)) rfl ?_)
       exact s0 (Wk.to (eC rfl (eC rfl (eC rfl (eC rfl (eC (congrArg LV.bool (Eq.trans (Eq.trans (andT hb22) (orF hb21)) (itT hb20))) eN))))) mN rfl (prK rfl))
      ·replace hb22 := bF hb22
       refine sF rfl rfl hb22 ?_
       refine sF rfl rfl hb22 ?_
       refine sF rfl rfl hb22 ?_
       refine sT rfl (congrArg LV.bool hb21) (oPkF (congrArg LV.bool hb22) (v := (.bool _)) rfl ?_)
       refine sN (oPkF (congrArg LV.bool hb21) (v := (.bool _)) rfl ?_)
       exact s0 (Wk.to (eC rfl (eC rfl (eC rfl (eC rfl (eC (congrArg LV.bool (Eq.trans (Eq.trans (andF hb22) (orF hb21)) (itT hb20))) eN))))) mN rfl (prK rfl))
    ·replace hb20 := bF hb20
     refine sF rfl rfl hb20 ?_
     refine sF rfl rfl hb20 ?_
     refine sF rfl rfl hb20 ?_
     refine sF rfl rfl hb20 ?_
     refine sN (oPkF (congrArg LV.bool hb20) (v := (.bool _)) rfl ?_)
     refine sMb rfl ?_
     refine sT rfl rfl (oFaS tf46_2 tk4 ts4 rfl rfl rfl ?_)
     refine sT rfl rfl (oLd rfl tk4 ta4 ?_)
     refine sT rfl rfl (oM (v := (.bool _)) rfl ?_)
     by_cases hb23 : x18.Open = true
     ·refine sT rfl (congrArg LV.bool hb23) (oFaS tf46_1 tk3 ts3 rfl rfl rfl ?_)
      refine sT rfl (congrArg LV.bool hb23) (oLd rfl tk3 ta3 ?_)
      refine sT rfl (congrArg LV.bool hb23) (oNe rfl rfl ?_)
      refine sT rfl rfl (oPkT (congrArg LV.bool hb23) (v := (.bool _)) rfl ?_)
      refine sN (oPkF rfl (v := (.bool _)) rfl ?_)
      exact s0 (Wk.to (eC rfl (eC rfl (eC rfl (eC rfl (eC (congrArg LV.bool (Eq.trans (andT hb23) (itF hb20))) eN))))) mN rfl (prK rfl))
     ·replace hb23 := bF hb23
      refine sF rfl rfl hb23 ?_
      refine sF rfl rfl hb23 ?_
      refine sF rfl rfl hb23 ?_
      refine sT rfl rfl (oPkF (congrArg LV.bool hb23) (v := (.bool _)) rfl ?_)
      refine sN (oPkF rfl (v := (.bool _)) rfl ?_)
      exact s0 (Wk.to (eC rfl (eC rfl (eC rfl (eC rfl (eC (congrArg LV.bool (Eq.trans (andF hb23) (itF hb20))) eN))))) mN rfl (prK rfl))
   refine LH.cond (t := (if (!x18.Open) = true then ((decide ((x18.Found.length : Int) > 0)) || (x18.Open && (x18.Holder != 0))) else (x18.Open && (x18.Holder != 0)))) rfl (fun hc24 => ?_) (fun hc24 => ?_)
   ·replace h := iteT h hc24
    refine LH.seqT [(2, .I 8)] [] rfl ?_ ?_
    ·refine sAi rfl ?_
     exact s0 (Wk.eq rfl rfl rfl rfl)
    refine LH.ret ?_
    refine blockR ?_
    refine thenR ?_
    refine roundR ?_
    refine blockR ?_
    refine thenR ?_
    obtain rfl := Option.some.inj h
    exact retE (congrArg Array.toList Try.results24) (lrT rfl (lr0 ⟨memN mN, rfl, prK rfl, Sub.rfl⟩))
   replace h := iteF h hc24
   refine LH.skip ?_
   refine blockN ?_
   refine thenN ?_
   refine LH.loneT [(0, .lst 6 (List.map GBag.lv p0)), (40, .lst 6 (List.map GBag.lv p0)), (41, .I (p0.length : Int)), (42, .I (i64 (n16 + 1)))] [] rfl ?_ ?_
   ·refine sN (oAdd rfl rfl ?_)
    refine sMi rfl ?_
    exact s0 (Wk.eq rfl rfl rfl rfl)
   exact roundI ⟨(i64 (n16 + 1)), hrec3 ▸ h, rfl, rfl⟩ (Wk.eq rfl rfl rfl rfl)
  replace h := iteF h hc17
  refine LH.exit ?_
  refine thenX ?_
  refine roundX ?_
  refine blockH ?_
  refine thenN ?_
  refine LH.wk (Wk.eq (el := [(0, .lst 6 (List.map GBag.lv p0))]) (ml := []) rfl rfl rfl rfl) ?_
  refine LH.seq ?_
  refine LH.seqT [(0, .lst 6 (List.map GBag.lv p0)), (9, .I 1)] [] rfl ?_ ?_
  ·refine sAi rfl ?_
   exact s0 (Wk.eq rfl rfl rfl rfl)
  refine LH.block ?_
  refine LH.loop (fun n e m => ∃ (n25 : Int), custody_Check_L4 F p0 n n25 = some r ∧ e = Env.of [(0, .lst 6 (List.map GBag.lv p0)), (9, .I n25)] ∧ m = Mem.of []) F ⟨1, h, rfl, rfl⟩ ?_
  clear h
  rintro n e m ⟨n25, h, rfl, rfl⟩
  rcases n with _ | n
  · cases (show Option.none = some _ from h)
  obtain ⟨rec4, hrec4⟩ : ∃ f, f = custody_Check_L4 F p0 n := ⟨_, rfl⟩
  replace h : custody_Check_L4_B F p0 rec4 n25 = some r := hrec4 ▸ h
  unfold custody_Check_L4_B at h
  refine LH.seq ?_
  refine LH.seqT [(0, .lst 6 (List.map GBag.lv p0)), (9, .I n25), (68, .bool (decide (n25 < (p0.length : Int))))] [] rfl ?_ ?_
  ·refine sMi rfl ?_
   refine sMl rfl ?_
   refine sN (oLnL (f := GBag.lv) te39 rfl ?_)
   refine sN (oLt rfl rfl ?_)
   exact s0 (Wk.eq rfl rfl rfl rfl)
  refine LH.cond (t := (decide (n25 < (p0.length : Int)))) rfl (fun hc26 => ?_) (fun hc26 => ?_)
  ·replace h := iteT h hc26
   refine LH.skip ?_
   refine thenN ?_
   refine LH.wk (Wk.eq (el := [(0, .lst 6 (List.map GBag.lv p0)), (9, .I n25)]) (ml := []) rfl rfl rfl rfl) ?_
   refine LH.seq ?_
   refine LH.block ?_
   obtain ⟨x27, hx27, h⟩ := bindS h
   obtain ⟨x28, hx28, h⟩ := bindS h
   refine LH.seqJM mixed [] [0, 0, 0, 0, 0, 0, 0, 0, 0, 0, 0, 0] [(0, .lst 6 (List.map GBag.lv p0)), (9, .I n25), (82, .bool (decide (x27.Bag ≥ x28.Bag)))] [] rfl rfl (by kernel_rfl) ?_ ?_
   ·refine mN0 (oM (v := (.lst _ _)) rfl ⟨rfl, ?_⟩)
    refine mN0 (oM (v := (.int _ _)) rfl ⟨rfl, ?_⟩)
    refine mN0 (oSub rfl rfl ⟨rfl, ?_⟩)
    refine mN0 (oIx (f := GBag.lv) te39 tk46 ts46 rfl rfl GBag.ok hx27 rfl ⟨rfl, ?_⟩)
    refine mN0 (oFaS tf46_0 tk3 ts3 rfl rfl rfl ⟨rfl, ?_⟩)
    refine mN0 (oLd rfl tk3 ta3 ⟨rfl, ?_⟩)
    refine mN0 (oM (v := (.lst _ _)) rfl ⟨rfl, ?_⟩)
    refine mN0 (oM (v := (.int _ _)) rfl ⟨rfl, ?_⟩)
    refine mN0 (oIx (f := GBag.lv) te39 tk46 ts46 rfl rfl GBag.ok hx28 rfl ⟨rfl, ?_⟩)
    refine mN0 (oFaS tf46_0 tk3 ts3 rfl rfl rfl ⟨rfl, ?_⟩)
    refine mN0 (oLd rfl tk3 ta3 ⟨rfl, ?_⟩)
    refine mN0 (oGe rfl rfl ⟨rfl, ?_⟩)
    exact m0 (Wk.eq rfl rfl rfl rfl)
   refine LH.cond (t := (decide (x27.Bag ≥ x28.Bag))) rfl (fun hc29 => ?_) (fun hc29 => ?_)
   ·replace h := iteT h hc29
    refine LH.seqT [(2, .I 5)] [] rfl ?_ ?_
    ·refine sAi rfl ?_
     exact s0 (Wk.eq rfl rfl rfl rfl)
    refine LH.ret ?_
    refine blockR ?_
    refine thenR ?_
    refine roundR ?_
    refine blockR ?_
    refine thenR ?_
    obtain rfl := Option.some.inj h
    exact retE (congrArg Array.toList Try.results24) (lrT rfl (lr0 ⟨memN mN, rfl, prK rfl, Sub.rfl⟩))
   replace h := iteF h hc29
   refine LH.skip ?_
   refine blockN ?_
   refine thenN ?_
   refine LH.loneT [(0, .lst 6 (List.map GBag.lv p0)), (9, .I (i64 (n25 + 1)))] [] rfl ?_ ?_
   ·refine sMi rfl ?_
    refine sN (oAdd rfl rfl ?_)
    refine sAi rfl ?_
    exact s0 (Wk.eq rfl rfl rfl rfl)
   exact roundI ⟨(i64 (n25 + 1)), hrec4 ▸ h, rfl, rfl⟩ (Wk.eq rfl rfl rfl rfl)
  replace h := iteF h hc26
  refine LH.exit ?_
  refine thenX ?_
  refine roundX ?_
  refine blockH ?_
  refine thenN ?_
  refine LH.wk (Wk.eq (el := [(0, .lst 6 (List.map GBag.lv p0))]) (ml := []) rfl rfl rfl rfl) ?_
  refine LH.seq ?_
  obtain ⟨w31, hv, h⟩ := bindS h
  refine LH.seqT [(88, .bool w31)] [] rfl ?_ ?_
  ·refine sMl rfl ?_
   obtain ⟨r32, hr32, hv⟩ := bindS hv
   refine sN (oCP (args := [.lst 6 (List.map GBag.lv p0), .fn 43 []]) rfl isF42 rfl (sbR (sbR sbN)) (custody_repeated_ok (p1_f := 43) (p1_c := []) isF43 rfl (fun _ _ h => custody_sealsOf_ok h) hr32) rfl ?_)
   refine sMb rfl ?_
   by_cases hb33 : r32 = true
   ·replace hv := iteT hv hb33
    refine sF rfl rfl hb33 ?_
    refine sF rfl rfl hb33 ?_
    refine sN (oPkT (congrArg LV.bool hb33) (v := (.bool _)) rfl ?_)
    obtain rfl := Option.some.inj hv
    exact s0 (Wk.eq rfl rfl rfl rfl)
   ·replace hb33 := bF hb33
    replace hv := iteF hv hb33
    refine sT rfl (congrArg LV.bool hb33) (oM (v := (.lst _ _)) rfl ?_)
    obtain ⟨r34, hr34, hv⟩ := bindS hv
    refine sT rfl (congrArg LV.bool hb33) (oCP (args := [.lst 6 (List.map GBag.lv p0), .fn 44 []]) rfl isF42 rfl (sbR (sbR sbN)) (custody_repeated_ok (p1_f := 44) (p1_c := []) isF44 rfl (fun _ _ h => custody_packedOf_ok h) hr34) rfl ?_)
    refine sN (oPkF (congrArg LV.bool hb33) (v := (.bool _)) rfl ?_)
    obtain rfl := Option.some.inj hv
    exact s0 (Wk.eq rfl rfl rfl rfl)
  clear hv
  refine LH.cond (t := w31) rfl (fun hc35 => ?_) (fun hc35 => ?_)
  ·replace h := iteT h hc35
   refine LH.seqT [(2, .I 9)] [] rfl ?_ ?_
   ·refine sAi rfl ?_
    exact s0 (Wk.eq rfl rfl rfl rfl)
   refine LH.ret ?_
   refine thenR ?_
   obtain rfl := Option.some.inj h
   exact retE (congrArg Array.toList Try.results24) (lrT rfl (lr0 ⟨memN mN, rfl, prK rfl, Sub.rfl⟩))
  replace h := iteF h hc35
  refine LH.skip ?_
  refine thenN ?_
  refine LH.seqT [(2, .I 0)] [] rfl ?_ ?_
  ·refine sAi rfl ?_
   exact s0 (Wk.eq rfl rfl rfl rfl)
  refine LH.ret ?_
  obtain rfl := Option.some.inj h
  exact retE (congrArg Array.toList Try.results24) (lrT rfl (lr0 ⟨memN mN, rfl, prK rfl, Sub.rfl⟩))

theorem law17_CustodyFull_ok {F : Nat} {p0 : Int} {r : Bool} (h : law17_CustodyFull F p0 = some r) : LCall Try.prog 7 [.I p0] (Mem.of []) (.bool r) (Mem.of []) := by
  unfold law17_CustodyFull at h
  refine bodyT Try.func7 rfl (by rw [Try.ntmps7]; exact Nat.le_of_ble_eq_true rfl) ?_
  refine LH.wk (Wk.eq (el := [(0, .I p0)]) (ml := []) rfl rfl rfl rfl) ?_
  refine LH.seqT [(0, .I p0)] [] rfl ?_ ?_
  ·refine sAb rfl ?_
   exact s0 (Wk.eq rfl rfl rfl rfl)
  obtain ⟨r1, hr1, h⟩ := bindS h
  refine LH.seqT [(0, .I (i64 (17 + r1)))] [] rfl ?_ ?_
  ·refine sMi rfl ?_
   refine sN (oCP (args := [.I p0, .I 6]) rfl isF23 rfl (sbR (sbR sbN)) (make_Cut_ok hr1) rfl ?_)
   refine sN (oAdd rfl rfl ?_)
   refine sAi rfl ?_
   exact s0 (Wk.eq rfl rfl rfl rfl)
  refine LH.seqT [(0, .I (i64 (17 + r1))), (3, .nil)] [] rfl ?_ ?_
  ·refine sAn rfl ?_
   exact s0 (Wk.eq rfl rfl rfl rfl)
  refine LH.seq ?_
  refine LH.seqT [(0, .I (i64 (17 + r1))), (3, .nil), (4, .I 0)] [] rfl ?_ ?_
  ·refine sAi rfl ?_
   exact s0 (Wk.eq rfl rfl rfl rfl)
  refine LH.block ?_
  refine LH.wk ((Wk.trans (Wk.eq (el := [(0, .I (i64 (17 + r1))), (3, .nil), (4, .I 0)]) (ml := []) rfl rfl rfl rfl) (Wk.trans (Wk.eq (el := [(0, .I (i64 (17 + r1))), (3, .nil), (4, .I 0)]) (ml := []) rfl rfl rfl rfl) (Wk.trans (Wk.ownL (el' := [(0, .I (i64 (17 + r1))), (3, .arr 129 (List.length ([] : List GBagEvent))), (4, .I 0)]) 129 34 9 rfl rfl (wK (wO (wK wN)))) (Wk.eq (el := [(0, .I (i64 (17 + r1))), (3, .arr 129 (List.length ([] : List GBagEvent))), (4, .I 0)]) (ml := [(129, .arr 34 9 (List.map GBagEvent.lv ([] : List GBagEvent)))]) rfl rfl rfl rfl))))) ?_
  refine LH.loop (fun n e m => ∃ (n2 : Int) (l3 : List GBagEvent), law17_CustodyFull_L1 F r1 n n2 l3 = some r ∧ e = Env.of [(0, .I (i64 (17 + r1))), (3, .arr 129 (List.length l3)), (4, .I n2)] ∧ m = Mem.of [(129, .arr 34 9 (List.map GBagEvent.lv l3))]) F ⟨0, ([] : List GBagEvent), h, rfl, rfl⟩ ?_
  clear h
  rintro n e m ⟨n2, l3, h, rfl, rfl⟩
  rcases n with _ | n
  · cases (show Option.none = some _ from h)
  obtain ⟨rec1, hrec1⟩ : ∃ f, f = law17_CustodyFull_L1 F r1 n := ⟨_, rfl⟩
  replace h : law17_CustodyFull_L1_B F r1 rec1 n2 l3 = some r := hrec1 ▸ h
  unfold law17_CustodyFull_L1_B at h
  refine LH.seq ?_
  refine LH.seqT [(0, .I (i64 (17 + r1))), (3, .arr 129 (List.length l3)), (4, .I n2), (14, .bool (decide (n2 < (i64 (17 + r1)))))] [(129, .arr 34 9 (List.map GBagEvent.lv l3))] rfl ?_ ?_
  ·refine sMi rfl ?_
   refine sMi rfl ?_
   refine sN (oLt rfl rfl ?_)
   exact s0 (Wk.eq rfl rfl rfl rfl)
  refine LH.cond (t := (decide (n2 < (i64 (17 + r1))))) rfl (fun hc4 => ?_) (fun hc4 => ?_)
  ·replace h := iteT h hc4
   refine LH.skip ?_
   refine thenN ?_
   refine LH.wk (Wk.eq (el := [(0, .I (i64 (17 + r1))), (3, .arr 129 (List.length l3)), (4, .I n2)]) (ml := [(129, .arr 34 9 (List.map GBagEvent.lv l3))]) rfl rfl rfl rfl) ?_
   refine LH.seq ?_
   refine LH.block ?_
   obtain ⟨v5, hv5, h⟩ := bindS h
   refine LH.loneT [(0, .I (i64 (17 + r1))), (3, .arr 129 (List.length v5)), (4, .I n2)] [(129, .arr 34 9 (List.map GBagEvent.lv v5))] rfl ?_ ?_
   ·refine sMa rfl ?_
    refine sMi rfl ?_
    refine sMi rfl ?_
    refine sN (oBd (vs := [(0, .I n2), (1, .I 3), (2, .I n2)]) tu32 tz32 rfl (lf tf32_0 ts3 tk3 rfl rfl rfl (lf tf32_1 ts3 tk3 rfl rfl rfl (lf tf32_2 ts3 tk3 rfl rfl rfl lf0))) ?_)
    refine sMi rfl ?_
    refine sMi rfl ?_
    refine sN (oSub rfl rfl ?_)
    refine sMi rfl ?_
    refine sMi rfl ?_
    refine sN (oBS (f := LV.I) (ys := [n2]) te22 tr3 ts3 rfl rfl rfl okI ?_)
    refine sN (oBd (vs := [(0, .agg [.I n2, .I 3, .I n2]), (1, .I 1), (2, .I (i64 ((i64 (17 + r1)) - n2))), (3, .I n2), (4, .I 3), (6, .L [n2])]) tu34 tz34 rfl (lf tf34_0 ts32 tk32 rfl rfl rfl (lf tf34_1 ts3 tk3 rfl rfl rfl (lf tf34_2 ts3 tk3 rfl rfl rfl (lf tf34_3 ts3 tk3 rfl rfl rfl (lf tf34_4 ts3 tk3 rfl rfl rfl (lf tf34_6 ts22 tk22 rfl rfl rfl lf0)))))) ?_)
    refine sN (oBS (f := GBagEvent.lv) (ys := [(GBagEvent.mk (GStamp.mk n2 3 n2) 1 (i64 ((i64 (17 + r1)) - n2)) n2 3 0 [n2])]) te25 tr34 ts34 rfl rfl rfl GBagEvent.ok ?_)
    refine sN (oAp (f := GBagEvent.lv) te25 tr34 ts34 rfl rfl (prN rfl) rfl hv5 ?_)
    refine sAa rfl ?_
    exact s0 (Wk.eq rfl rfl rfl rfl)
   refine blockN ?_
   refine thenN ?_
   refine LH.loneT [(0, .I (i64 (17 + r1))), (3, .arr 129 (List.length v5)), (4, .I (i64 (n2 + 1)))] [(129, .arr 34 9 (List.map GBagEvent.lv v5))] rfl ?_ ?_
   ·refine sMi rfl ?_
    refine sN (oAdd rfl rfl ?_)
    refine sAi rfl ?_
    exact s0 (Wk.eq rfl rfl rfl rfl)
   exact roundI ⟨(i64 (n2 + 1)), v5, hrec1 ▸ h, rfl, rfl⟩ (Wk.eq rfl rfl rfl rfl)
  replace h := iteF h hc4
  refine LH.exit ?_
  refine thenX ?_
  refine roundX ?_
  refine blockH ?_
  refine thenN ?_
  refine LH.wk ((Wk.trans (Wk.eq (el := [(0, .I (i64 (17 + r1))), (3, .arr 129 (List.length l3))]) (ml := [(129, .arr 34 9 (List.map GBagEvent.lv l3))]) rfl rfl rfl rfl) (Wk.trans (Wk.frzL (f := GBagEvent.lv) (el' := [(0, .I (i64 (17 + r1))), (3, .lst 9 (List.map GBagEvent.lv l3))]) 129 34 9 l3 rfl rfl (prN rfl) (fK rfl (fZ fN))) (Wk.eq (el := [(0, .I (i64 (17 + r1))), (3, .lst 9 (List.map GBagEvent.lv l3))]) (ml := []) rfl rfl rfl rfl)))) ?_
  obtain ⟨r6, hr6, h⟩ := bindS h
  refine LH.seqT [(0, .I (i64 (17 + r1))), (5, .lst 6 (List.map GBag.lv r6.1)), (6, .lst 3 (List.map GRefusal.lv r6.2.1)), (7, .I r6.2.2)] [] rfl ?_ ?_
  ·refine sMl rfl ?_
   refine sN (oCP (args := [.lst 9 (List.map GBagEvent.lv l3), .I 100]) rfl isF18 rfl (sbR (sbR sbN)) (custody_Fold_ok hr6) rfl ?_)
   refine sMt rfl ?_
   refine sN (oEx rfl rfl ?_)
   refine sN (oEx rfl rfl ?_)
   refine sN (oEx rfl rfl ?_)
   refine sAl rfl ?_
   refine sAl rfl ?_
   refine sAi rfl ?_
   exact s0 (Wk.eq rfl rfl rfl rfl)
  refine LH.seq ?_
  obtain ⟨w8, hv, h⟩ := bindS h
  refine LH.seqT [(6, .lst 3 (List.map GRefusal.lv r6.2.1)), (57, .bool w8)] [] rfl ?_ ?_
  ·refine sMi rfl ?_
   refine sN (oNe rfl rfl ?_)
   refine sMb rfl ?_
   by_cases hb9 : (r6.2.2 != 0) = true
   ·replace hv := iteT hv hb9
    refine sF rfl rfl hb9 ?_
    refine sF rfl rfl hb9 ?_
    refine sF rfl rfl hb9 ?_
    refine sF rfl rfl hb9 ?_
    refine sF rfl rfl hb9 ?_
    refine sN (oPkT (congrArg LV.bool hb9) (v := (.bool _)) rfl ?_)
    refine sMb rfl ?_
    refine sF rfl rfl rfl ?_
    refine sF rfl rfl rfl ?_
    refine sF rfl rfl rfl ?_
    refine sF rfl rfl rfl ?_
    refine sF rfl rfl rfl ?_
    refine sF rfl rfl rfl ?_
    refine sN (oPkT rfl (v := (.bool _)) rfl ?_)
    refine sMb rfl ?_
    refine sF rfl rfl rfl ?_
    refine sF rfl rfl rfl ?_
    refine sF rfl rfl rfl ?_
    refine sN (oPkT rfl (v := (.bool _)) rfl ?_)
    obtain rfl := Option.some.inj hv
    exact s0 (Wk.eq rfl rfl rfl rfl)
   ·replace hb9 := bF hb9
    replace hv := iteF hv hb9
    refine sT rfl (congrArg LV.bool hb9) (oM (v := (.lst _ _)) rfl ?_)
    refine sT rfl (congrArg LV.bool hb9) (oLnL (f := GBag.lv) te39 rfl ?_)
    refine sT rfl (congrArg LV.bool hb9) (oM (v := (.int _ _)) rfl ?_)
    refine sXT rfl (congrArg LV.bool hb9) ((ok_min rfl rfl).ok) ?_
    refine sT rfl (congrArg LV.bool hb9) (oNe rfl rfl ?_)
    refine sN (oPkF (congrArg LV.bool hb9) (v := (.bool _)) rfl ?_)
    refine sMb rfl ?_
    by_cases hb10 : ((r6.1.length : Int) != (min (i64 (17 + r1)) 20)) = true
    ·replace hv := iteT hv hb10
     refine sF rfl rfl hb10 ?_
     refine sF rfl rfl hb10 ?_
     refine sF rfl rfl hb10 ?_
     refine sF rfl rfl hb10 ?_
     refine sF rfl rfl hb10 ?_
     refine sF rfl rfl hb10 ?_
     refine sN (oPkT (congrArg LV.bool hb10) (v := (.bool _)) rfl ?_)
     refine sMb rfl ?_
     refine sF rfl rfl rfl ?_
     refine sF rfl rfl rfl ?_
     refine sF rfl rfl rfl ?_
     refine sN (oPkT rfl (v := (.bool _)) rfl ?_)
     obtain rfl := Option.some.inj hv
     exact s0 (Wk.eq rfl rfl rfl rfl)
    ·replace hb10 := bF hb10
     replace hv := iteF hv hb10
     refine sT rfl (congrArg LV.bool hb10) (oM (v := (.lst _ _)) rfl ?_)
     refine sT rfl (congrArg LV.bool hb10) (oLnL (f := GRefusal.lv) te40 rfl ?_)
     refine sT rfl (congrArg LV.bool hb10) (oM (v := (.int _ _)) rfl ?_)
     refine sT rfl (congrArg LV.bool hb10) (oSub rfl rfl ?_)
     refine sXT rfl (congrArg LV.bool hb10) ((ok_max rfl rfl).ok) ?_
     refine sT rfl (congrArg LV.bool hb10) (oNe rfl rfl ?_)
     refine sN (oPkF (congrArg LV.bool hb10) (v := (.bool _)) rfl ?_)
     refine sMb rfl ?_
     by_cases hb11 : ((r6.2.1.length : Int) != (max (i64 ((i64 (17 + r1)) - 20)) 0)) = true
     ·replace hv := iteT hv hb11
      refine sF rfl rfl hb11 ?_
      refine sF rfl rfl hb11 ?_
      refine sF rfl rfl hb11 ?_
      refine sN (oPkT (congrArg LV.bool hb11) (v := (.bool _)) rfl ?_)
      obtain rfl := Option.some.inj hv
      exact s0 (Wk.eq rfl rfl rfl rfl)
     ·replace hb11 := bF hb11
      replace hv := iteF hv hb11
      refine sT rfl (congrArg LV.bool hb11) (oM (v := (.lst _ _)) rfl ?_)
      obtain ⟨r12, hr12, hv⟩ := bindS hv
      refine sT rfl (congrArg LV.bool hb11) (oCP (args := [.lst 6 (List.map GBag.lv r6.1)]) rfl isF24 rfl (sbR sbN) (custody_Check_ok hr12) rfl ?_)
      refine sT rfl (congrArg LV.bool hb11) (oNe rfl rfl ?_)
      refine sN (oPkF (congrArg LV.bool hb11) (v := (.bool _)) rfl ?_)
      obtain rfl := Option.some.inj hv
      exact s0 (Wk.eq rfl rfl rfl rfl)
  clear hv
  refine LH.cond (t := w8) rfl (fun hc13 => ?_) (fun hc13 => ?_)
  ·replace h := iteT h hc13
   refine LH.seqT [(2, .bool false)] [] rfl ?_ ?_
   ·refine sAb rfl ?_
    exact s0 (Wk.eq rfl rfl rfl rfl)
   refine LH.ret ?_
   refine thenR ?_
   obtain rfl := Option.some.inj h
   exact retE (congrArg Array.toList Try.results7) (lrT rfl (lr0 ⟨memN mN, rfl, prK rfl, Sub.rfl⟩))
  replace h := iteF h hc13
  refine LH.skip ?_
  refine thenN ?_
  refine LH.wk (Wk.eq (el := [(6, .lst 3 (List.map GRefusal.lv r6.2.1))]) (ml := []) rfl rfl rfl rfl) ?_
  refine LH.seq ?_
  refine LH.seqT [(6, .lst 3 (List.map GRefusal.lv r6.2.1)), (8, .I 0)] [] rfl ?_ ?_
  ·refine sAi rfl ?_
   exact s0 (Wk.eq rfl rfl rfl rfl)
  refine LH.block ?_
  refine LH.loop (fun n e m => ∃ (n14 : Int), law17_CustodyFull_L2 F r6 n n14 = some r ∧ e = Env.of [(6, .lst 3 (List.map GRefusal.lv r6.2.1)), (8, .I n14)] ∧ m = Mem.of []) F ⟨0, h, rfl, rfl⟩ ?_
  clear h
  rintro n e m ⟨n14, h, rfl, rfl⟩
  rcases n with _ | n
  · cases (show Option.none = some _ from h)
  obtain ⟨rec2, hrec2⟩ : ∃ f, f = law17_CustodyFull_L2 F r6 n := ⟨_, rfl⟩
  replace h : law17_CustodyFull_L2_B F r6 rec2 n14 = some r := hrec2 ▸ h
  unfold law17_CustodyFull_L2_B at h
  refine LH.seq ?_
  refine LH.seqT [(6, .lst 3 (List.map GRefusal.lv r6.2.1)), (8, .I n14), (61, .bool (decide (n14 < (r6.2.1.length : Int))))] [] rfl ?_ ?_
  ·refine sMi rfl ?_
   refine sMl rfl ?_
   refine sN (oLnL (f := GRefusal.lv) te40 rfl ?_)
   refine sN (oLt rfl rfl ?_)
   exact s0 (Wk.eq rfl rfl rfl rfl)
  refine LH.cond (t := (decide (n14 < (r6.2.1.length : Int)))) rfl (fun hc15 => ?_) (fun hc15 => ?_)
  ·replace h := iteT h hc15
   refine LH.skip ?_
   refine thenN ?_
   refine LH.wk (Wk.eq (el := [(6, .lst 3 (List.map GRefusal.lv r6.2.1)), (8, .I n14)]) (ml := []) rfl rfl rfl rfl) ?_
   refine LH.seq ?_
   refine LH.block ?_
   obtain ⟨x16, hx16, h⟩ := bindS h
   refine LH.seqT [(6, .lst 3 (List.map GRefusal.lv r6.2.1)), (8, .I n14), (69, .bool (x16.Code != 3))] [] rfl ?_ ?_
   ·refine sMl rfl ?_
    refine sMi rfl ?_
    refine sN (oIx (f := GRefusal.lv) te40 tk50 ts50 rfl rfl GRefusal.ok hx16 rfl ?_)
    refine sN (oFaS tf50_1 tk27 ts27 rfl rfl rfl ?_)
    refine sN (oLd rfl tk27 ta27 ?_)
    refine sN (oNe rfl rfl ?_)
    exact s0 (Wk.eq rfl rfl rfl rfl)
   refine LH.cond (t := (x16.Code != 3)) rfl (fun hc17 => ?_) (fun hc17 => ?_)
   ·replace h := iteT h hc17
    refine LH.seqT [(2, .bool false)] [] rfl ?_ ?_
    ·refine sAb rfl ?_
     exact s0 (Wk.eq rfl rfl rfl rfl)
    refine LH.ret ?_
    refine blockR ?_
    refine thenR ?_
    refine roundR ?_
    refine blockR ?_
    refine thenR ?_
    obtain rfl := Option.some.inj h
    exact retE (congrArg Array.toList Try.results7) (lrT rfl (lr0 ⟨memN mN, rfl, prK rfl, Sub.rfl⟩))
   replace h := iteF h hc17
   refine LH.skip ?_
   refine blockN ?_
   refine thenN ?_
   refine LH.loneT [(6, .lst 3 (List.map GRefusal.lv r6.2.1)), (8, .I (i64 (n14 + 1)))] [] rfl ?_ ?_
   ·refine sMi rfl ?_
    refine sN (oAdd rfl rfl ?_)
    refine sAi rfl ?_
    exact s0 (Wk.eq rfl rfl rfl rfl)
   exact roundI ⟨(i64 (n14 + 1)), hrec2 ▸ h, rfl, rfl⟩ (Wk.eq rfl rfl rfl rfl)
  replace h := iteF h hc15
  refine LH.exit ?_
  refine thenX ?_
  refine roundX ?_
  refine blockH ?_
  refine thenN ?_
  obtain ⟨r18, hr18, h⟩ := bindS h
  refine LH.seqT [(2, .bool r18)] [] rfl ?_ ?_
  ·refine sN (oCP (args := []) rfl isF16 rfl sbN (law17_awake_ok hr18) rfl ?_)
   refine sAb rfl ?_
   exact s0 (Wk.eq rfl rfl rfl rfl)
  refine LH.ret ?_
  obtain rfl := Option.some.inj h
  exact retE (congrArg Array.toList Try.results7) (lrT rfl (lr0 ⟨memN mN, rfl, prK rfl, Sub.rfl⟩))

end Go.Proofs.Ytdjkbicmkbnjdaa
