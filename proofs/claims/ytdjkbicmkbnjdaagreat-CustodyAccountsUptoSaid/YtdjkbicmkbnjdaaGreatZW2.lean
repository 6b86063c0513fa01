import Derived.Test.YtdjkbicmkbnjdaaGreatZW1
set_option linter.unusedVariables false
set_option linter.unusedSimpArgs false
set_option maxRecDepth 100000
namespace Go.Proofs.YtdjkbicmkbnjdaaGreat
open Go.L Go.Sh
theorem q240q {F : Nat} {p0 : Gq0} {r : Bool} (h : q114q F p0 = some r) : LCall Tryz.prog 63 [Gq0.lv p0] (Mem.of []) (.bool r) (Mem.of []) := by
  unfold q114q at h
  refine bodyT Tryz.func63 R (nT Tryz.ntmps63 R) (LH.wk (Wk.eq (el := [(0, Gq0.lv p0)]) (ml := []) R R R R) (LH.seqT [(1, .sptr (Gq0.lv p0).cells)] [] R (sB (oBxR R R R R (sAb R zS))) (LH.seq ?_)))
  obtain ⟨w2, hv, h⟩ := bindS h
  refine LH.seqT [(1, .sptr (Gq0.lv p0).cells), (28, .bool w2)] [] R ?_ ?_
  ·refine sN (oFaS tf52_1 tk3 ts3 R R R (sN (oLd R tk3 ta3 (sN (oLt R R (sMb R ?_))))))
   by_cases hb3 : (decide (p0.Kind < 1)) = true
   ·replace hv := iteT hv hb3
    refine sF R R hb3 (sF R R hb3 (sF R R hb3 (sN (oPkT (cB hb3) (v := (.bool _)) R (sMb R (sF R R R (sF R R R (sF R R R (sF R R R (sN (oPkT R (v := (.bool _)) R (sMb R (sF R R R (sF R R R (sF R R R (sF R R R (sN (oPkT R (v := (.bool _)) R (sMb R (sF R R R (sF R R R (sF R R R (sF R R R (sN (oPkT R (v := (.bool _)) R ?_)))))))))))))))))))))))))
    obtain rfl := oI hv
    exact zS
   ·replace hb3 := bF hb3
    replace hv := iteF hv hb3
    refine sT R (cB hb3) (oFaS tf52_1 tk3 ts3 R R R (sT R (cB hb3) (oLd R tk3 ta3 (sT R (cB hb3) (oGt R R (sN (oPkF (cB hb3) (v := (.bool _)) R (sMb R ?_))))))))
    by_cases hb4 : (decide (p0.Kind > 4)) = true
    ·replace hv := iteT hv hb4
     refine sF R R hb4 (sF R R hb4 (sF R R hb4 (sF R R hb4 (sN (oPkT (cB hb4) (v := (.bool _)) R (sMb R (sF R R R (sF R R R (sF R R R (sF R R R (sN (oPkT R (v := (.bool _)) R (sMb R (sF R R R (sF R R R (sF R R R (sF R R R (sN (oPkT R (v := (.bool _)) R ?_)))))))))))))))))))
     obtain rfl := oI hv
     exact zS
    ·replace hb4 := bF hb4
     replace hv := iteF hv hb4
     refine sT R (cB hb4) (oFaS tf52_2 tk3 ts3 R R R (sT R (cB hb4) (oLd R tk3 ta3 ?_)))
     obtain ⟨r5, hr5, hv⟩ := bindS hv
     refine sT R (cB hb4) (oCP (args := [.I p0.Bag]) R isF73 R (sbR sbN) (q256q hr5) R (sT R (cB hb4) (oNot R (sN (oPkF (cB hb4) (v := (.bool _)) R (sMb R ?_))))))
     by_cases hb6 : (!r5) = true
     ·replace hv := iteT hv hb6
      refine sF R R hb6 (sF R R hb6 (sF R R hb6 (sF R R hb6 (sN (oPkT (cB hb6) (v := (.bool _)) R (sMb R (sF R R R (sF R R R (sF R R R (sF R R R (sN (oPkT R (v := (.bool _)) R ?_))))))))))))
      obtain rfl := oI hv
      exact zS
     ·replace hb6 := bF hb6
      replace hv := iteF hv hb6
      refine sT R (cB hb6) (oFaS tf52_3 tk3 ts3 R R R (sT R (cB hb6) (oLd R tk3 ta3 ?_)))
      obtain ⟨r7, hr7, hv⟩ := bindS hv
      refine sT R (cB hb6) (oCP (args := [.I p0.Seal]) R isF77 R (sbR sbN) (q251q hr7) R (sT R (cB hb6) (oNot R (sN (oPkF (cB hb6) (v := (.bool _)) R (sMb R ?_))))))
      by_cases hb8 : (!r7) = true
      ·replace hv := iteT hv hb8
       refine sF R R hb8 (sF R R hb8 (sF R R hb8 (sF R R hb8 (sN (oPkT (cB hb8) (v := (.bool _)) R ?_)))))
       obtain rfl := oI hv
       exact zS
      ·replace hb8 := bF hb8
       replace hv := iteF hv hb8
       refine sT R (cB hb8) (oFaS tf52_4 tk3 ts3 R R R (sT R (cB hb8) (oLd R tk3 ta3 ?_)))
       obtain ⟨r9, hr9, hv⟩ := bindS hv
       refine sT R (cB hb8) (oCP (args := [.I p0.From]) R isF74 R (sbR sbN) (q209q hr9) R (sT R (cB hb8) (oNot R (sN (oPkF (cB hb8) (v := (.bool _)) R ?_)))))
       obtain rfl := oI hv
       exact zS
  clear hv
  refine LH.cond (t := w2) R (fun hc10 => ?_) (fun hc10 => ?_)
  ·replace h := iteT h hc10
   refine LH.seqT [(2, .bool true)] [] R (sAb R zS) (LH.ret (thenR ?_))
   obtain rfl := oI h
   exact retE (aT Tryz.results63) (lrT R (lr0 ⟨memN mN, R, prK R, Sub.rfl⟩))
  replace h := iteF h hc10
  refine LH.skip (thenN (LH.wk (Wk.eq (el := [(1, .sptr (Gq0.lv p0).cells)]) (ml := []) R R R R) (LH.seq (LH.seqT [(1, .sptr (Gq0.lv p0).cells), (30, .I p0.Kind)] [] R (sN (oFaS tf52_1 tk3 ts3 R R R (sN (oLd R tk3 ta3 zS)))) (LH.block (LH.seqT [(1, .sptr (Gq0.lv p0).cells), (30, .I p0.Kind), (31, .bool (p0.Kind == 2))] [] R (sN (oEq R R (sAb R zS))) (LH.cond (t := (p0.Kind == 2)) R (fun hc11 => ?_) (fun hc11 => ?_))))))))
  ·replace h := iteT h hc11
   obtain ⟨r12, hr12, h⟩ := bindS h
   refine LH.seqT [(2, .bool (!r12))] [] R (sN (oFaS tf52_5 tk3 ts3 R R R (sN (oLd R tk3 ta3 (sN (oCP (args := [.I p0.To]) R isF74 R (sbR sbN) (q209q hr12) R (sN (oNot R (sAb R zS))))))))) (LH.ret (blockR (thenR ?_)))
   obtain rfl := oI h
   exact retE (aT Tryz.results63) (lrT R (lr0 ⟨memN mN, R, prK R, Sub.rfl⟩))
  replace h := iteF h hc11
  refine LH.seq (LH.seqT [(1, .sptr (Gq0.lv p0).cells), (30, .I p0.Kind), (37, .bool (p0.Kind == 1))] [] R (sN (oEq R R (sAb R zS))) (LH.cond (t := (p0.Kind == 1)) R (fun hc13 => ?_) (fun hc13 => ?_)))
  ·replace h := iteT h hc13
   refine LH.skip (thenN (LH.wk (Wk.eq (el := [(1, .sptr (Gq0.lv p0).cells), (37, .bool (p0.Kind == 1))]) (ml := []) R R R R) (LH.cond (t := (p0.Kind == 1)) R (fun hc14 => ?_) (fun hc14 => ?_))))
   ·replace h := iteT h hc14
    obtain ⟨r15, hr15, h⟩ := bindS h
    refine LH.seqT [(2, .bool (!r15))] [] R (sN (oFaS tf52_6 tk22 ts22 R R R (sN (oLd R tk22 ta22 (sN (oCP (args := [.L p0.Candidates]) R isF41 R (sbR sbN) (q225q hr15) R (sN (oNot R (sAb R zS))))))))) (LH.ret (blockR (thenR ?_)))
    obtain rfl := oI h
    exact retE (aT Tryz.results63) (lrT R (lr0 ⟨memN mN, R, prK R, Sub.rfl⟩))
   replace h := iteF h hc14
   refine LH.skip (blockN (thenN (LH.seqT [(2, .bool false)] [] R (sAb R zS) (LH.ret ?_))))
   obtain rfl := oI h
   exact retE (aT Tryz.results63) (lrT R (lr0 ⟨memN mN, R, prK R, Sub.rfl⟩))
  replace h := iteF h hc13
  refine LH.loneT [(1, .sptr (Gq0.lv p0).cells), (37, .bool (p0.Kind == 3))] [] R (sN (oEq R R (sAb R zS))) (thenN (LH.cond (t := (p0.Kind == 3)) R (fun hc16 => ?_) (fun hc16 => ?_)))
  ·replace h := iteT h hc16
   obtain ⟨r17, hr17, h⟩ := bindS h
   refine LH.seqT [(2, .bool (!r17))] [] R (sN (oFaS tf52_6 tk22 ts22 R R R (sN (oLd R tk22 ta22 (sN (oCP (args := [.L p0.Candidates]) R isF41 R (sbR sbN) (q225q hr17) R (sN (oNot R (sAb R zS))))))))) (LH.ret (blockR (thenR ?_)))
   obtain rfl := oI h
   exact retE (aT Tryz.results63) (lrT R (lr0 ⟨memN mN, R, prK R, Sub.rfl⟩))
  replace h := iteF h hc16
  refine LH.skip (blockN (thenN (LH.seqT [(2, .bool false)] [] R (sAb R zS) (LH.ret ?_))))
  obtain rfl := oI h
  exact retE (aT Tryz.results63) (lrT R (lr0 ⟨memN mN, R, prK R, Sub.rfl⟩))

theorem q226q {F : Nat} {c0 : Gq0} {r : Bool} (h : q18q F c0 = some r) : LCall Tryz.prog 62 [.sptr (Gq0.lv c0).cells] (Mem.of []) (.bool r) (Mem.of []) := by
  unfold q18q at h
  refine bodyT Tryz.func62 R (nT Tryz.ntmps62 R) (LH.wk (Wk.eq (el := [(0, .sptr (Gq0.lv c0).cells)]) (ml := []) R R R R) (LH.seqT [(0, .sptr (Gq0.lv c0).cells)] [] R (sAb R zS) ?_))
  obtain ⟨r1, hr1, h⟩ := bindS h
  refine LH.seqT [(1, .bool r1)] [] R (sN (oLdA R tk52 ta52 ts52 R R (sN (oCP (args := [Gq0.lv c0]) R isF63 R (sbR sbN) (q240q hr1) R (sAb R zS))))) (LH.ret ?_)
  obtain rfl := oI h
  exact retE (aT Tryz.results62) (lrT R (lr0 ⟨memN mN, R, prK R, Sub.rfl⟩))

theorem q227q {c0 : Gq0} {r : Bool} (h : q19q c0 = some r) : LCall Tryz.prog 64 [.sptr (Gq0.lv c0).cells] (Mem.of []) (.bool r) (Mem.of []) := by
  unfold q19q at h
  refine bodyT Tryz.func64 R (nT Tryz.ntmps64 R) (LH.wk (Wk.eq (el := [(0, .sptr (Gq0.lv c0).cells)]) (ml := []) R R R R) (LH.seqT [(0, .sptr (Gq0.lv c0).cells)] [] R (sAb R zS) (LH.seqT [(1, .bool ((c0.Stamp.Source != 0) && (c0.Stamp.Source != c0.From)))] [] R ?_ ?_)))
  ·refine sN (oFaS tf52_0 tk50 ts50 R R R (sN (oFaS tf50_1 tk3 ts3 R R R (sN (oLd R tk3 ta3 (sN (oNe R R (sMb R ?_))))))))
   by_cases hb2 : (c0.Stamp.Source != 0) = true
   ·exact sT R (cB hb2) (oFaS tf52_0 tk50 ts50 R R R (sT R (cB hb2) (oFaS tf50_1 tk3 ts3 R R R (sT R (cB hb2) (oLd R tk3 ta3 (sT R (cB hb2) (oFaS tf52_4 tk3 ts3 R R R (sT R (cB hb2) (oLd R tk3 ta3 (sT R (cB hb2) (oNe R R (sN (oPkT (cB hb2) (v := (.bool _)) R (sAb R (s0 (Wk.to (eC (cB (andT hb2)) eN) mN R (prK R)))))))))))))))))
   ·replace hb2 := bF hb2
    exact sF R R hb2 (sF R R hb2 (sF R R hb2 (sF R R hb2 (sF R R hb2 (sF R R hb2 (sN (oPkF (cB hb2) (v := (.bool _)) R (sAb R (s0 (Wk.to (eC (cB (andF hb2)) eN) mN R (prK R)))))))))))
  refine LH.ret ?_
  obtain rfl := oI h
  exact retE (aT Tryz.results64) (lrT R (lr0 ⟨memN mN, R, prK R, Sub.rfl⟩))

theorem q217q {c0 : Gq0} {r : Bool} (h : q23q c0 = some r) : LCall Tryz.prog 83 [.sptr (Gq0.lv c0).cells] (Mem.of []) (.bool r) (Mem.of []) := by
  unfold q23q at h
  refine bodyT Tryz.func83 R (nT Tryz.ntmps83 R) (LH.wk (Wk.eq (el := [(0, .sptr (Gq0.lv c0).cells)]) (ml := []) R R R R) (LH.seqT [(0, .sptr (Gq0.lv c0).cells)] [] R (sAb R zS) (LH.seqT [(1, .bool (c0.From == 0))] [] R (sN (oFaS tf52_4 tk3 ts3 R R R (sN (oLd R tk3 ta3 (sN (oEq R R (sAb R zS))))))) (LH.ret ?_))))
  obtain rfl := oI h
  exact retE (aT Tryz.results83) (lrT R (lr0 ⟨memN mN, R, prK R, Sub.rfl⟩))

theorem q218q {c0 : Bool} {r : Bool} (h : q24q c0 = some r) : LCall Tryz.prog 84 [.sptr [.bool c0]] (Mem.of []) (.bool r) (Mem.of []) := by
  unfold q24q at h
  refine bodyT Tryz.func84 R (nT Tryz.ntmps84 R) (LH.wk (Wk.eq (el := [(0, .sptr [.bool c0])]) (ml := []) R R R R) (LH.seqT [(0, .sptr [.bool c0])] [] R (sAb R zS) (LH.seqT [(1, .bool c0)] [] R (sN (oLd R tk4 ta4 (sAb R zS))) (LH.ret ?_))))
  obtain rfl := oI h
  exact retE (aT Tryz.results84) (lrT R (lr0 ⟨memN mN, R, prK R, Sub.rfl⟩))

theorem q237q {F : Nat} {p0 : List Int} {p1 : Int} {r : Int} (h : q99q F p0 p1 = some r) : LCall Tryz.prog 72 [.L p0, .I p1] (Mem.of []) (.I r) (Mem.of []) := by
  unfold q99q at h
  refine bodyT Tryz.func72 R (nT Tryz.ntmps72 R) (LH.wk (Wk.eq (el := [(0, .L p0), (1, .I p1)]) (ml := []) R R R R) (LH.seqT [(0, .L p0), (1, .I p1)] [] R (sAi R zS) (LH.seq (LH.seqT [(0, .L p0), (1, .I p1), (7, .I (p0.length : Int)), (8, .I 0)] [] R (sMl R (sN (oLnL (f := LV.I) te22 R (sMi R zS)))) (LH.block (LH.loop (fun n e m => ∃ (n1 : Int), q3q p0 p1 n n1 = some r ∧ e = Env.of [(0, .L p0), (1, .I p1), (7, .I (p0.length : Int)), (8, .I n1)] ∧ m = Mem.of []) F ⟨0, h, R, R⟩ ?_))))))
  clear h
  rintro n e m ⟨n1, h, rfl, rfl⟩
  rcases n with _ | n
  · cases (show Option.none = some _ from h)
  obtain ⟨rec1, hrec1⟩ : ∃ f, f = q3q p0 p1 n := ⟨_, rfl⟩
  replace h : q17q p0 p1 rec1 n1 = some r := hrec1 ▸ h
  unfold q17q at h
  refine LH.seqT [(0, .L p0), (1, .I p1), (7, .I (p0.length : Int)), (8, .I n1), (9, .bool (decide (n1 < (p0.length : Int))))] [] R (sN (oLt R R zS)) (LH.seq (LH.cond (t := (decide (n1 < (p0.length : Int)))) R (fun hc2 => ?_) (fun hc2 => ?_)))
  ·replace h := iteT h hc2
   refine LH.skip (thenN (LH.wk (Wk.eq (el := [(0, .L p0), (1, .I p1), (7, .I (p0.length : Int)), (8, .I n1)]) (ml := []) R R R R) (LH.seq (LH.block (LH.seqT [(0, .L p0), (1, .I p1), (5, .I n1), (7, .I (p0.length : Int)), (8, .I n1)] [] R (sMi R (sAi R zS)) ?_)))))
   obtain ⟨x3, hx3, h⟩ := bindS h
   refine LH.seqT [(0, .L p0), (1, .I p1), (5, .I n1), (7, .I (p0.length : Int)), (8, .I n1), (16, .bool (p1 == x3))] [] R (sMi R (sMl R (sMi R (sN (oIx (f := LV.I) te22 tk3 ts3 R R okI hx3 R (sN (oLd R tk3 ta3 (sN (oEq R R zS))))))))) (LH.cond (t := (p1 == x3)) R (fun hc4 => ?_) (fun hc4 => ?_))
   ·replace h := iteT h hc4
    refine LH.seqT [(4, .I n1)] [] R (sMi R (sAi R zS)) (LH.ret (blockR (thenR (roundR (blockR (thenR ?_))))))
    obtain rfl := oI h
    exact retE (aT Tryz.results72) (lrT R (lr0 ⟨memN mN, R, prK R, Sub.rfl⟩))
   replace h := iteF h hc4
   refine LH.skip (blockN (thenN (LH.loneT [(0, .L p0), (1, .I p1), (7, .I (p0.length : Int)), (8, .I (i64 (n1 + 1)))] [] R (sN (oAdd R R (sMi R zS))) ?_)))
   exact roundI ⟨(i64 (n1 + 1)), hrec1 ▸ h, R, R⟩ (Wk.eq R R R R)
  replace h := iteF h hc2
  refine LH.exit (thenX (roundX (blockH (thenN (LH.seqT [(4, .I (-1))] [] R (sAi R zS) (LH.ret ?_))))))
  obtain rfl := oI h
  exact retE (aT Tryz.results72) (lrT R (lr0 ⟨memN mN, R, prK R, Sub.rfl⟩))

theorem q173q {F : Nat} {p0 : List Int} {p1 : Int} {r : Bool} (h : q13q F p0 p1 = some r) : LCall Tryz.prog 37 [.L p0, .I p1] (Mem.of []) (.bool r) (Mem.of []) := by
  unfold q13q at h
  refine bodyT Tryz.func37 R (nT Tryz.ntmps37 R) (LH.wk (Wk.eq (el := [(0, .L p0), (1, .I p1)]) (ml := []) R R R R) (LH.seqT [(0, .L p0), (1, .I p1)] [] R (sAb R zS) ?_))
  obtain ⟨r1, hr1, h⟩ := bindS h
  refine LH.seqT [(4, .bool (decide (r1 ≥ 0)))] [] R (sMl R (sMi R (sN (oCP (args := [.L p0, .I p1]) R isF72 R (sbR (sbR sbN)) (q237q hr1) R (sN (oGe R R (sAb R zS))))))) (LH.ret ?_)
  obtain rfl := oI h
  exact retE (aT Tryz.results37) (lrT R (lr0 ⟨memN mN, R, prK R, Sub.rfl⟩))

theorem q245q {F : Nat} {p0 : GBag} {c0 : (GBag → Option (List Int))} {c1 : Int} {r : Bool} {c0_f : Nat} {c0_c : List LV} (c0_i : IsF Tryz.prog c0_f) (c0_q : LV.pureL c0_c = true) (c0_k : ∀ (x0 : GBag) (q : List Int), c0 x0 = some q → LCall Tryz.prog c0_f ([.agg [.I x0.Bag, .I x0.Holder, .bool x0.Open, .L x0.Seals, .L x0.Packed, .L x0.Found]] ++ c0_c) (Mem.of []) (.L q) (Mem.of [])) (h : q146q F p0 c0 c1 = some r) : LCall Tryz.prog 103 [.agg [.I p0.Bag, .I p0.Holder, .bool p0.Open, .L p0.Seals, .L p0.Packed, .L p0.Found], .sptr [.fn c0_f c0_c], .sptr [.I c1]] (Mem.of []) (.bool r) (Mem.of []) := by
  have c0_p : ∀ {l : List LV}, LV.pureL l = true → LV.pureL (l ++ c0_c) = true := pnC c0_q
  have c0_r : LV.refsL c0_c = [] := refsL_pure c0_q
  unfold q146q at h
  refine bodyT Tryz.func103 R (nT Tryz.ntmps103 R) (LH.wk (Wk.to (el := [(0, .agg [.I p0.Bag, .I p0.Holder, .bool p0.Open, .L p0.Seals, .L p0.Packed, .L p0.Found]), (1, .sptr [.fn c0_f c0_c]), (2, .sptr [.I c1])]) (ml := []) (eQ ⟨R, R, R, trivial⟩) mN (by simp [keptRefs, LV.refs, LV.refsL, LV.cells, lev, Env.args, Env.of, Env.put, Env.drop, c0_r]) (prK R)) (LH.seqT [(1, .sptr [.fn c0_f c0_c]), (2, .sptr [.I c1]), (3, .sptr [.I p0.Bag, .I p0.Holder, .bool p0.Open, .L p0.Seals, .L p0.Packed, .L p0.Found])] [] R (sB (oBxR R R R R (sAb R (s0 (Wk.to (eQ ⟨R, R, R, trivial⟩) mN (by simp [keptRefs, LV.refs, LV.refsL, LV.cells, lev, Env.args, Env.of, Env.put, Env.drop, c0_r]) (prK R)))))) ?_))
  obtain ⟨r1, hr1, h⟩ := bindS h
  obtain ⟨r2, hr2, h⟩ := bindS h
  refine LH.seqJM mixed [] [0, 0, 0, 0, 0, 0] [(4, .bool r2)] [] R R (by kernel_rfl) ?_ ?_
  ·refine mN0 (oLd R tk75 ta75 ⟨R, mN0 (oLdA R tk43 ta43 ts43 R R ⟨R, mN0 (oCP (args := [.agg [.I p0.Bag, .I p0.Holder, .bool p0.Open, .L p0.Seals, .L p0.Packed, .L p0.Found]] ++ c0_c) (args' := [.agg [.I p0.Bag, .I p0.Holder, .bool p0.Open, .L p0.Seals, .L p0.Packed, .L p0.Found]] ++ c0_c) R c0_i R SubL.rfl (c0_k _ _ hr1) (c0_p R) ⟨R, ?_⟩)⟩)⟩)
   exact mN0 (oLd R tk3 ta3 ⟨R, mN0 (oCP (args := [.L r1, .I c1]) R isF37 R (sbR (sbR sbN)) (q173q hr2) R ⟨R, mAb R (m0 (Wk.to (eQ ⟨R, trivial⟩) mN (by simp [keptRefs, LV.refs, LV.refsL, LV.cells, lev, Env.args, Env.of, Env.put, Env.drop, c0_r]) (prK R)))⟩)⟩)
  refine LH.ret ?_
  obtain rfl := oI h
  exact retE (aT Tryz.results103) (lrT R (lr0 ⟨memN mN, R, prK R, Sub.rfl⟩))

theorem q214q {F : Nat} {p0 : List GBag} {p1 : (GBag → Option Bool)} {r : Int} {p1_f : Nat} {p1_c : List LV} (p1_i : IsF Tryz.prog p1_f) (p1_q : LV.pureL p1_c = true) (p1_k : ∀ (x0 : GBag) (q : Bool), p1 x0 = some q → LCall Tryz.prog p1_f ([.agg [.I x0.Bag, .I x0.Holder, .bool x0.Open, .L x0.Seals, .L x0.Packed, .L x0.Found]] ++ p1_c) (Mem.of []) (.bool q) (Mem.of [])) (h : q97q F p0 p1 = some r) : LCall Tryz.prog 114 [.lst 6 (List.map GBag.lv p0), .fn p1_f p1_c] (Mem.of []) (.I r) (Mem.of []) := by
  have p1_p : ∀ {l : List LV}, LV.pureL l = true → LV.pureL (l ++ p1_c) = true := pnC p1_q
  have p1_r : LV.refsL p1_c = [] := refsL_pure p1_q
  unfold q97q at h
  refine bodyT Tryz.func114 R (nT Tryz.ntmps114 R) (LH.wk (Wk.to (el := [(0, .lst 6 (List.map GBag.lv p0)), (1, .fn p1_f p1_c)]) (ml := []) (eQ ⟨R, R, trivial⟩) mN (by simp [keptRefs, LV.refs, LV.refsL, LV.cells, lev, Env.args, Env.of, Env.put, Env.drop, p1_r]) (prK R)) (LH.seqT [(0, .lst 6 (List.map GBag.lv p0)), (1, .fn p1_f p1_c)] [] R (sAi R (s0 (Wk.to (eQ ⟨R, R, trivial⟩) mN (by simp [keptRefs, LV.refs, LV.refsL, LV.cells, lev, Env.args, Env.of, Env.put, Env.drop, p1_r]) (prK R)))) (LH.seq (LH.seqT [(0, .lst 6 (List.map GBag.lv p0)), (1, .fn p1_f p1_c), (7, .I (p0.length : Int)), (8, .I 0)] [] R (sMl R (sN (oLnL (f := GBag.lv) te27 R (sMi R (s0 (Wk.to (eQ ⟨R, R, R, R, trivial⟩) mN (by simp [keptRefs, LV.refs, LV.refsL, LV.cells, lev, Env.args, Env.of, Env.put, Env.drop, p1_r]) (prK R))))))) (LH.block (LH.loop (fun n e m => ∃ (n1 : Int), q5q p0 p1 n n1 = some r ∧ e = Env.of [(0, .lst 6 (List.map GBag.lv p0)), (1, .fn p1_f p1_c), (7, .I (p0.length : Int)), (8, .I n1)] ∧ m = Mem.of []) F ⟨0, h, R, R⟩ ?_))))))
  clear h
  rintro n e m ⟨n1, h, rfl, rfl⟩
  rcases n with _ | n
  · cases (show Option.none = some _ from h)
  obtain ⟨rec1, hrec1⟩ : ∃ f, f = q5q p0 p1 n := ⟨_, rfl⟩
  replace h : q37q p0 p1 rec1 n1 = some r := hrec1 ▸ h
  unfold q37q at h
  refine LH.seqT [(0, .lst 6 (List.map GBag.lv p0)), (1, .fn p1_f p1_c), (7, .I (p0.length : Int)), (8, .I n1), (9, .bool (decide (n1 < (p0.length : Int))))] [] R (sN (oLt R R (s0 (Wk.to (eQ ⟨R, R, R, R, R, trivial⟩) mN (by simp [keptRefs, LV.refs, LV.refsL, LV.cells, lev, Env.args, Env.of, Env.put, Env.drop, p1_r]) (prK R))))) (LH.seq (LH.cond (t := (decide (n1 < (p0.length : Int)))) R (fun hc2 => ?_) (fun hc2 => ?_)))
  ·replace h := iteT h hc2
   refine LH.skip (thenN (LH.wk (Wk.to (el := [(0, .lst 6 (List.map GBag.lv p0)), (1, .fn p1_f p1_c), (7, .I (p0.length : Int)), (8, .I n1)]) (ml := []) (eQ ⟨R, R, R, R, trivial⟩) mN (by simp [keptRefs, LV.refs, LV.refsL, LV.cells, lev, Env.args, Env.of, Env.put, Env.drop, p1_r]) (prK R)) (LH.seq (LH.block (LH.seqT [(0, .lst 6 (List.map GBag.lv p0)), (1, .fn p1_f p1_c), (5, .I n1), (7, .I (p0.length : Int)), (8, .I n1)] [] R (sMi R (sAi R (s0 (Wk.to (eQ ⟨R, R, R, R, R, trivial⟩) mN (by simp [keptRefs, LV.refs, LV.refsL, LV.cells, lev, Env.args, Env.of, Env.put, Env.drop, p1_r]) (prK R))))) ?_)))))
   obtain ⟨x3, hx3, h⟩ := bindS h
   obtain ⟨r4, hr4, h⟩ := bindS h
   refine LH.seqT [(0, .lst 6 (List.map GBag.lv p0)), (1, .fn p1_f p1_c), (5, .I n1), (7, .I (p0.length : Int)), (8, .I n1), (16, .bool r4)] [] R ?_ ?_
   ·refine sN (oM (v := (.fn _ _)) R (sMl R (sMi R (sN (oIx (f := GBag.lv) te27 tk43 ts43 R R GBag.ok hx3 R (sN (oLdA R tk43 ta43 ts43 R R (sN (oCP (args := [.agg [.I x3.Bag, .I x3.Holder, .bool x3.Open, .L x3.Seals, .L x3.Packed, .L x3.Found]] ++ p1_c) (args' := [.agg [.I x3.Bag, .I x3.Holder, .bool x3.Open, .L x3.Seals, .L x3.Packed, .L x3.Found]] ++ p1_c) R p1_i R SubL.rfl (p1_k _ _ hr4) (p1_p R) ?_)))))))))
    exact s0 (Wk.to (eQ ⟨R, R, R, R, R, R, trivial⟩) mN (by simp [keptRefs, LV.refs, LV.refsL, LV.cells, lev, Env.args, Env.of, Env.put, Env.drop, p1_r]) (prK R))
   refine LH.cond (t := r4) R (fun hc5 => ?_) (fun hc5 => ?_)
   ·replace h := iteT h hc5
    refine LH.seqT [(4, .I n1)] [] R (sMi R (sAi R (s0 (Wk.to (eQ ⟨R, trivial⟩) mN (by simp [keptRefs, LV.refs, LV.refsL, LV.cells, lev, Env.args, Env.of, Env.put, Env.drop, p1_r]) (prK R))))) (LH.ret (blockR (thenR (roundR (blockR (thenR ?_))))))
    obtain rfl := oI h
    exact retE (aT Tryz.results114) (lrT R (lr0 ⟨memN mN, R, prK R, Sub.rfl⟩))
   replace h := iteF h hc5
   refine LH.skip (blockN (thenN (LH.loneT [(0, .lst 6 (List.map GBag.lv p0)), (1, .fn p1_f p1_c), (7, .I (p0.length : Int)), (8, .I (i64 (n1 + 1)))] [] R (sN (oAdd R R (sMi R (s0 (Wk.to (eQ ⟨R, R, R, R, trivial⟩) mN (by simp [keptRefs, LV.refs, LV.refsL, LV.cells, lev, Env.args, Env.of, Env.put, Env.drop, p1_r]) (prK R)))))) ?_)))
   exact roundI ⟨(i64 (n1 + 1)), hrec1 ▸ h, R, R⟩ (Wk.to (eQ ⟨R, R, R, R, trivial⟩) mN (by simp [keptRefs, LV.refs, LV.refsL, LV.cells, lev, Env.args, Env.of, Env.put, Env.drop, p1_r]) (prK R))
  replace h := iteF h hc2
  refine LH.exit (thenX (roundX (blockH (thenN (LH.seqT [(4, .I (-1))] [] R (sAi R (s0 (Wk.to (eQ ⟨R, trivial⟩) mN (by simp [keptRefs, LV.refs, LV.refsL, LV.cells, lev, Env.args, Env.of, Env.put, Env.drop, p1_r]) (prK R)))) (LH.ret ?_))))))
  obtain rfl := oI h
  exact retE (aT Tryz.results114) (lrT R (lr0 ⟨memN mN, R, prK R, Sub.rfl⟩))

theorem q205q {F : Nat} {p0 : List GBag} {p1 : (GBag → Option Bool)} {r : Bool} {p1_f : Nat} {p1_c : List LV} (p1_i : IsF Tryz.prog p1_f) (p1_q : LV.pureL p1_c = true) (p1_k : ∀ (x0 : GBag) (q : Bool), p1 x0 = some q → LCall Tryz.prog p1_f ([.agg [.I x0.Bag, .I x0.Holder, .bool x0.Open, .L x0.Seals, .L x0.Packed, .L x0.Found]] ++ p1_c) (Mem.of []) (.bool q) (Mem.of [])) (h : q42q F p0 p1 = some r) : LCall Tryz.prog 102 [.lst 6 (List.map GBag.lv p0), .fn p1_f p1_c] (Mem.of []) (.bool r) (Mem.of []) := by
  have p1_p : ∀ {l : List LV}, LV.pureL l = true → LV.pureL (l ++ p1_c) = true := pnC p1_q
  have p1_r : LV.refsL p1_c = [] := refsL_pure p1_q
  unfold q42q at h
  refine bodyT Tryz.func102 R (nT Tryz.ntmps102 R) (LH.wk (Wk.to (el := [(0, .lst 6 (List.map GBag.lv p0)), (1, .fn p1_f p1_c)]) (ml := []) (eQ ⟨R, R, trivial⟩) mN (by simp [keptRefs, LV.refs, LV.refsL, LV.cells, lev, Env.args, Env.of, Env.put, Env.drop, p1_r]) (prK R)) (LH.seqT [(0, .lst 6 (List.map GBag.lv p0)), (1, .fn p1_f p1_c)] [] R (sAb R (s0 (Wk.to (eQ ⟨R, R, trivial⟩) mN (by simp [keptRefs, LV.refs, LV.refsL, LV.cells, lev, Env.args, Env.of, Env.put, Env.drop, p1_r]) (prK R)))) ?_))
  obtain ⟨r1, hr1, h⟩ := bindS h
  refine LH.seqT [(4, .bool (decide (r1 ≥ 0)))] [] R (sMl R (sN (oM (v := (.fn _ _)) R (sN (oCP (args := [.lst 6 (List.map GBag.lv p0), .fn p1_f p1_c]) R isF114 R (sbR (sbR sbN)) (q214q p1_i p1_q p1_k hr1) (by simp [LV.pure, LV.pureL, p1_q]) (sN (oGe R R (sAb R (s0 (Wk.to (eQ ⟨R, trivial⟩) mN (by simp [keptRefs, LV.refs, LV.refsL, LV.cells, lev, Env.args, Env.of, Env.put, Env.drop, p1_r]) (prK R))))))))))) (LH.ret ?_)
  obtain rfl := oI h
  exact retE (aT Tryz.results102) (lrT R (lr0 ⟨memN mN, R, prK R, Sub.rfl⟩))

theorem q189q {F : Nat} {p0 : List GBag} {p1 : Int} {p2 : (GBag → Option (List Int))} {r : Bool} {p2_f : Nat} {p2_c : List LV} (p2_i : IsF Tryz.prog p2_f) (p2_q : LV.pureL p2_c = true) (p2_k : ∀ (x0 : GBag) (q : List Int), p2 x0 = some q → LCall Tryz.prog p2_f ([.agg [.I x0.Bag, .I x0.Holder, .bool x0.Open, .L x0.Seals, .L x0.Packed, .L x0.Found]] ++ p2_c) (Mem.of []) (.L q) (Mem.of [])) (h : q60q F p0 p1 p2 = some r) : LCall Tryz.prog 86 [.lst 6 (List.map GBag.lv p0), .I p1, .fn p2_f p2_c] (Mem.of []) (.bool r) (Mem.of []) := by
  have p2_p : ∀ {l : List LV}, LV.pureL l = true → LV.pureL (l ++ p2_c) = true := pnC p2_q
  have p2_r : LV.refsL p2_c = [] := refsL_pure p2_q
  unfold q60q at h
  refine bodyT Tryz.func86 R (nT Tryz.ntmps86 R) (LH.wk (Wk.to (el := [(0, .lst 6 (List.map GBag.lv p0)), (1, .I p1), (2, .fn p2_f p2_c)]) (ml := []) (eQ ⟨R, R, R, trivial⟩) mN (by simp [keptRefs, LV.refs, LV.refsL, LV.cells, lev, Env.args, Env.of, Env.put, Env.drop, p2_r]) (prK R)) (LH.seqT [(0, .lst 6 (List.map GBag.lv p0)), (4, .sptr [.I p1]), (5, .sptr [.fn p2_f p2_c])] [] R (sB (oBxR R R R R (sB (oBxR R R R R (sAb R (s0 (Wk.to (eQ ⟨R, R, R, trivial⟩) mN (by simp [keptRefs, LV.refs, LV.refsL, LV.cells, lev, Env.args, Env.of, Env.put, Env.drop, p2_r]) (prK R)))))))) ?_))
  obtain ⟨r1, hr1, h⟩ := bindS h
  refine LH.seqT [(6, .bool r1)] [] R (sMl R (sN (oMF (vs := [.sptr [.fn p2_f p2_c], .sptr [.I p1]]) R (sN (oCP (args := [.lst 6 (List.map GBag.lv p0), .fn 103 [.sptr [.fn p2_f p2_c], .sptr [.I p1]]]) R isF102 R (sbR (sbR sbN)) (q205q (p1_f := 103) (p1_c := [.sptr [.fn p2_f p2_c], .sptr [.I p1]]) isF103 (by simp [LV.pure, LV.pureL, p2_q]) (fun _ _ h => q245q p2_i p2_q p2_k h) hr1) (by simp [LV.pure, LV.pureL, p2_q]) (sAb R (s0 (Wk.to (eQ ⟨R, trivial⟩) mN (by simp [keptRefs, LV.refs, LV.refsL, LV.cells, lev, Env.args, Env.of, Env.put, Env.drop, p2_r]) (prK R))))))))) (LH.ret ?_)
  obtain rfl := oI h
  exact retE (aT Tryz.results86) (lrT R (lr0 ⟨memN mN, R, prK R, Sub.rfl⟩))

theorem q213q {p0 : GBag} {r : List Int} (h : q122q p0 = some r) : LCall Tryz.prog 43 [GBag.lv p0] (Mem.of []) (.L r) (Mem.of []) := by
  unfold q122q at h
  refine bodyT Tryz.func43 R (nT Tryz.ntmps43 R) (LH.wk (Wk.eq (el := [(0, GBag.lv p0)]) (ml := []) R R R R) (LH.seqT [(1, .sptr (GBag.lv p0).cells)] [] R (sB (oBxR R R R R (sAn R zS))) (LH.seqT [(2, .L p0.Seals)] [] R (sN (oFaS tf43_3 tk22 ts22 R R R (sN (oLd R tk22 ta22 (sAl R zS))))) (LH.ret ?_))))
  obtain rfl := oI h
  exact retE (aT Tryz.results43) (lrT R (lr0 ⟨memN mN, R, prK R, Sub.rfl⟩))

theorem q246q {p0 : GBag} {r : List Int} (h : q147q p0 = some r) : LCall Tryz.prog 44 [GBag.lv p0] (Mem.of []) (.L r) (Mem.of []) := by
  unfold q147q at h
  refine bodyT Tryz.func44 R (nT Tryz.ntmps44 R) (LH.wk (Wk.eq (el := [(0, GBag.lv p0)]) (ml := []) R R R R) (LH.seqT [(1, .sptr (GBag.lv p0).cells)] [] R (sB (oBxR R R R R (sAn R zS))) (LH.seqT [(2, .L p0.Packed)] [] R (sN (oFaS tf43_4 tk22 ts22 R R R (sN (oLd R tk22 ta22 (sAl R zS))))) (LH.ret ?_))))
  obtain rfl := oI h
  exact retE (aT Tryz.results44) (lrT R (lr0 ⟨memN mN, R, prK R, Sub.rfl⟩))

theorem q210q {F : Nat} {p0 : Int} {c0 : List GBag} {r : Bool} (h : q49q F p0 c0 = some r) : LCall Tryz.prog 87 [.I p0, .sptr [.lst 6 (List.map GBag.lv c0)]] (Mem.of []) (.bool r) (Mem.of []) := by
  unfold q49q at h
  refine bodyT Tryz.func87 R (nT Tryz.ntmps87 R) (LH.wk (Wk.eq (el := [(0, .I p0), (1, .sptr [.lst 6 (List.map GBag.lv c0)])]) (ml := []) R R R R) (LH.seqT [(0, .I p0), (1, .sptr [.lst 6 (List.map GBag.lv c0)])] [] R (sAb R zS) ?_))
  obtain ⟨r1, hr1, h⟩ := bindS h
  refine LH.seqT [(3, .bool r1)] [] R (sN (oLd R tk27 ta27 (sMi R (sN (oCP (args := [.lst 6 (List.map GBag.lv c0), .I p0, .fn 44 []]) R isF86 R (sbR (sbR (sbR sbN))) (q189q (p2_f := 44) (p2_c := []) isF44 R (fun _ _ h => q246q h) hr1) R (sAb R zS)))))) (LH.ret ?_)
  obtain rfl := oI h
  exact retE (aT Tryz.results87) (lrT R (lr0 ⟨memN mN, R, prK R, Sub.rfl⟩))

theorem q215q {F : Nat} {p0 : List Int} {p1 : (Int → Option Bool)} {r : Int} {p1_f : Nat} {p1_c : List LV} (p1_i : IsF Tryz.prog p1_f) (p1_q : LV.pureL p1_c = true) (p1_k : ∀ (x0 : Int) (q : Bool), p1 x0 = some q → LCall Tryz.prog p1_f ([.I x0] ++ p1_c) (Mem.of []) (.bool q) (Mem.of [])) (h : q98q F p0 p1 = some r) : LCall Tryz.prog 97 [.L p0, .fn p1_f p1_c] (Mem.of []) (.I r) (Mem.of []) := by
  have p1_p : ∀ {l : List LV}, LV.pureL l = true → LV.pureL (l ++ p1_c) = true := pnC p1_q
  have p1_r : LV.refsL p1_c = [] := refsL_pure p1_q
  unfold q98q at h
  refine bodyT Tryz.func97 R (nT Tryz.ntmps97 R) (LH.wk (Wk.to (el := [(0, .L p0), (1, .fn p1_f p1_c)]) (ml := []) (eQ ⟨R, R, trivial⟩) mN (by simp [keptRefs, LV.refs, LV.refsL, LV.cells, lev, Env.args, Env.of, Env.put, Env.drop, p1_r]) (prK R)) (LH.seqT [(0, .L p0), (1, .fn p1_f p1_c)] [] R (sAi R (s0 (Wk.to (eQ ⟨R, R, trivial⟩) mN (by simp [keptRefs, LV.refs, LV.refsL, LV.cells, lev, Env.args, Env.of, Env.put, Env.drop, p1_r]) (prK R)))) (LH.seq (LH.seqT [(0, .L p0), (1, .fn p1_f p1_c), (7, .I (p0.length : Int)), (8, .I 0)] [] R (sMl R (sN (oLnL (f := LV.I) te22 R (sMi R (s0 (Wk.to (eQ ⟨R, R, R, R, trivial⟩) mN (by simp [keptRefs, LV.refs, LV.refsL, LV.cells, lev, Env.args, Env.of, Env.put, Env.drop, p1_r]) (prK R))))))) (LH.block (LH.loop (fun n e m => ∃ (n1 : Int), q6q p0 p1 n n1 = some r ∧ e = Env.of [(0, .L p0), (1, .fn p1_f p1_c), (7, .I (p0.length : Int)), (8, .I n1)] ∧ m = Mem.of []) F ⟨0, h, R, R⟩ ?_))))))
  clear h
  rintro n e m ⟨n1, h, rfl, rfl⟩
  rcases n with _ | n
  · cases (show Option.none = some _ from h)
  obtain ⟨rec1, hrec1⟩ : ∃ f, f = q6q p0 p1 n := ⟨_, rfl⟩
  replace h : q38q p0 p1 rec1 n1 = some r := hrec1 ▸ h
  unfold q38q at h
  refine LH.seqT [(0, .L p0), (1, .fn p1_f p1_c), (7, .I (p0.length : Int)), (8, .I n1), (9, .bool (decide (n1 < (p0.length : Int))))] [] R (sN (oLt R R (s0 (Wk.to (eQ ⟨R, R, R, R, R, trivial⟩) mN (by simp [keptRefs, LV.refs, LV.refsL, LV.cells, lev, Env.args, Env.of, Env.put, Env.drop, p1_r]) (prK R))))) (LH.seq (LH.cond (t := (decide (n1 < (p0.length : Int)))) R (fun hc2 => ?_) (fun hc2 => ?_)))
  ·replace h := iteT h hc2
   refine LH.skip (thenN (LH.wk (Wk.to (el := [(0, .L p0), (1, .fn p1_f p1_c), (7, .I (p0.length : Int)), (8, .I n1)]) (ml := []) (eQ ⟨R, R, R, R, trivial⟩) mN (by simp [keptRefs, LV.refs, LV.refsL, LV.cells, lev, Env.args, Env.of, Env.put, Env.drop, p1_r]) (prK R)) (LH.seq (LH.block (LH.seqT [(0, .L p0), (1, .fn p1_f p1_c), (5, .I n1), (7, .I (p0.length : Int)), (8, .I n1)] [] R (sMi R (sAi R (s0 (Wk.to (eQ ⟨R, R, R, R, R, trivial⟩) mN (by simp [keptRefs, LV.refs, LV.refsL, LV.cells, lev, Env.args, Env.of, Env.put, Env.drop, p1_r]) (prK R))))) ?_)))))
   obtain ⟨x3, hx3, h⟩ := bindS h
   obtain ⟨r4, hr4, h⟩ := bindS h
   refine LH.seqT [(0, .L p0), (1, .fn p1_f p1_c), (5, .I n1), (7, .I (p0.length : Int)), (8, .I n1), (16, .bool r4)] [] R ?_ ?_
   ·refine sN (oM (v := (.fn _ _)) R (sMl R (sMi R (sN (oIx (f := LV.I) te22 tk3 ts3 R R okI hx3 R (sN (oLd R tk3 ta3 (sN (oCP (args := [.I x3] ++ p1_c) (args' := [.I x3] ++ p1_c) R p1_i R SubL.rfl (p1_k _ _ hr4) (p1_p R) ?_)))))))))
    exact s0 (Wk.to (eQ ⟨R, R, R, R, R, R, trivial⟩) mN (by simp [keptRefs, LV.refs, LV.refsL, LV.cells, lev, Env.args, Env.of, Env.put, Env.drop, p1_r]) (prK R))
   refine LH.cond (t := r4) R (fun hc5 => ?_) (fun hc5 => ?_)
   ·replace h := iteT h hc5
    refine LH.seqT [(4, .I n1)] [] R (sMi R (sAi R (s0 (Wk.to (eQ ⟨R, trivial⟩) mN (by simp [keptRefs, LV.refs, LV.refsL, LV.cells, lev, Env.args, Env.of, Env.put, Env.drop, p1_r]) (prK R))))) (LH.ret (blockR (thenR (roundR (blockR (thenR ?_))))))
    obtain rfl := oI h
    exact retE (aT Tryz.results97) (lrT R (lr0 ⟨memN mN, R, prK R, Sub.rfl⟩))
   replace h := iteF h hc5
   refine LH.skip (blockN (thenN (LH.loneT [(0, .L p0), (1, .fn p1_f p1_c), (7, .I (p0.length : Int)), (8, .I (i64 (n1 + 1)))] [] R (sN (oAdd R R (sMi R (s0 (Wk.to (eQ ⟨R, R, R, R, trivial⟩) mN (by simp [keptRefs, LV.refs, LV.refsL, LV.cells, lev, Env.args, Env.of, Env.put, Env.drop, p1_r]) (prK R)))))) ?_)))
   exact roundI ⟨(i64 (n1 + 1)), hrec1 ▸ h, R, R⟩ (Wk.to (eQ ⟨R, R, R, R, trivial⟩) mN (by simp [keptRefs, LV.refs, LV.refsL, LV.cells, lev, Env.args, Env.of, Env.put, Env.drop, p1_r]) (prK R))
  replace h := iteF h hc2
  refine LH.exit (thenX (roundX (blockH (thenN (LH.seqT [(4, .I (-1))] [] R (sAi R (s0 (Wk.to (eQ ⟨R, trivial⟩) mN (by simp [keptRefs, LV.refs, LV.refsL, LV.cells, lev, Env.args, Env.of, Env.put, Env.drop, p1_r]) (prK R)))) (LH.ret ?_))))))
  obtain rfl := oI h
  exact retE (aT Tryz.results97) (lrT R (lr0 ⟨memN mN, R, prK R, Sub.rfl⟩))

theorem q206q {F : Nat} {p0 : List Int} {p1 : (Int → Option Bool)} {r : Bool} {p1_f : Nat} {p1_c : List LV} (p1_i : IsF Tryz.prog p1_f) (p1_q : LV.pureL p1_c = true) (p1_k : ∀ (x0 : Int) (q : Bool), p1 x0 = some q → LCall Tryz.prog p1_f ([.I x0] ++ p1_c) (Mem.of []) (.bool q) (Mem.of [])) (h : q22q F p0 p1 = some r) : LCall Tryz.prog 75 [.L p0, .fn p1_f p1_c] (Mem.of []) (.bool r) (Mem.of []) := by
  have p1_p : ∀ {l : List LV}, LV.pureL l = true → LV.pureL (l ++ p1_c) = true := pnC p1_q
  have p1_r : LV.refsL p1_c = [] := refsL_pure p1_q
  unfold q22q at h
  refine bodyT Tryz.func75 R (nT Tryz.ntmps75 R) (LH.wk (Wk.to (el := [(0, .L p0), (1, .fn p1_f p1_c)]) (ml := []) (eQ ⟨R, R, trivial⟩) mN (by simp [keptRefs, LV.refs, LV.refsL, LV.cells, lev, Env.args, Env.of, Env.put, Env.drop, p1_r]) (prK R)) (LH.seqT [(0, .L p0), (1, .fn p1_f p1_c)] [] R (sAb R (s0 (Wk.to (eQ ⟨R, R, trivial⟩) mN (by simp [keptRefs, LV.refs, LV.refsL, LV.cells, lev, Env.args, Env.of, Env.put, Env.drop, p1_r]) (prK R)))) ?_))
  obtain ⟨r1, hr1, h⟩ := bindS h
  refine LH.seqT [(4, .bool (decide (r1 ≥ 0)))] [] R (sMl R (sN (oM (v := (.fn _ _)) R (sN (oCP (args := [.L p0, .fn p1_f p1_c]) R isF97 R (sbR (sbR sbN)) (q215q p1_i p1_q p1_k hr1) (by simp [LV.pure, LV.pureL, p1_q]) (sN (oGe R R (sAb R (s0 (Wk.to (eQ ⟨R, trivial⟩) mN (by simp [keptRefs, LV.refs, LV.refsL, LV.cells, lev, Env.args, Env.of, Env.put, Env.drop, p1_r]) (prK R))))))))))) (LH.ret ?_)
  obtain rfl := oI h
  exact retE (aT Tryz.results75) (lrT R (lr0 ⟨memN mN, R, prK R, Sub.rfl⟩))

theorem q219q {F : Nat} {c0 : List GBag} {c1 : Gq0} {r : Bool} (h : q25q F c0 c1 = some r) : LCall Tryz.prog 85 [.sptr [.lst 6 (List.map GBag.lv c0)], .sptr (Gq0.lv c1).cells] (Mem.of []) (.bool r) (Mem.of []) := by
  unfold q25q at h
  refine bodyT Tryz.func85 R (nT Tryz.ntmps85 R) (LH.wk (Wk.eq (el := [(0, .sptr [.lst 6 (List.map GBag.lv c0)]), (1, .sptr (Gq0.lv c1).cells)]) (ml := []) R R R R) (LH.seqT [(0, .sptr [.lst 6 (List.map GBag.lv c0)]), (1, .sptr (Gq0.lv c1).cells)] [] R (sAb R zS) ?_))
  obtain ⟨w2, hv, h⟩ := bindS h
  refine LH.seqT [(2, .bool w2)] [] R ?_ ?_
  ·refine sN (oLd R tk27 ta27 (sN (oFaS tf52_3 tk3 ts3 R R R (sN (oLd R tk3 ta3 ?_)))))
   obtain ⟨r3, hr3, hv⟩ := bindS hv
   refine sN (oCP (args := [.lst 6 (List.map GBag.lv c0), .I c1.Seal, .fn 43 []]) R isF86 R (sbR (sbR (sbR sbN))) (q189q (p2_f := 43) (p2_c := []) isF43 R (fun _ _ h => q213q h) hr3) R (sMb R ?_))
   by_cases hb4 : r3 = true
   ·replace hv := iteT hv hb4
    refine sF R R hb4 (sF R R hb4 (sF R R hb4 (sF R R hb4 (sN (oPkT (cB hb4) (v := (.bool _)) R (sAb R ?_))))))
    obtain rfl := oI hv
    exact zS
   ·replace hb4 := bF hb4
    replace hv := iteF hv hb4
    refine sT R (cB hb4) (oFaS tf52_6 tk22 ts22 R R R (sT R (cB hb4) (oLd R tk22 ta22 (sT R (cB hb4) (oMF (vs := [.sptr [.lst 6 (List.map GBag.lv c0)]]) R ?_)))))
    obtain ⟨r5, hr5, hv⟩ := bindS hv
    refine sT R (cB hb4) (oCP (args := [.L c1.Candidates, .fn 87 [.sptr [.lst 6 (List.map GBag.lv c0)]]]) R isF75 R (sbR (sbR sbN)) (q206q (p1_f := 87) (p1_c := [.sptr [.lst 6 (List.map GBag.lv c0)]]) isF87 R (fun _ _ h => q210q h) hr5) R (sN (oPkF (cB hb4) (v := (.bool _)) R (sAb R ?_))))
    obtain rfl := oI hv
    exact zS
  clear hv
  refine LH.ret ?_
  obtain rfl := oI h
  exact retE (aT Tryz.results85) (lrT R (lr0 ⟨memN mN, R, prK R, Sub.rfl⟩))

theorem q220q {c0 : List GBag} {r : Bool} (h : q26q c0 = some r) : LCall Tryz.prog 88 [.sptr [.lst 6 (List.map GBag.lv c0)]] (Mem.of []) (.bool r) (Mem.of []) := by
  unfold q26q at h
  refine bodyT Tryz.func88 R (nT Tryz.ntmps88 R) (LH.wk (Wk.eq (el := [(0, .sptr [.lst 6 (List.map GBag.lv c0)])]) (ml := []) R R R R) (LH.seqT [(0, .sptr [.lst 6 (List.map GBag.lv c0)])] [] R (sAb R zS) (LH.seqT [(1, .bool (decide ((c0.length : Int) ≥ 20)))] [] R (sN (oLd R tk27 ta27 (sN (oLnL (f := GBag.lv) te27 R (sN (oGe R R (sAb R zS))))))) (LH.ret ?_))))
  obtain rfl := oI h
  exact retE (aT Tryz.results88) (lrT R (lr0 ⟨memN mN, R, prK R, Sub.rfl⟩))

theorem q232q {F : Nat} {p0 : List GBag} {p1 : Gq0} {p2 : Bool} {r : List q0q} (h : q50q F p0 p1 p2 = some r) : LCall Tryz.prog 65 [.lst 6 (List.map GBag.lv p0), Gq0.lv p1, .bool p2] (Mem.of []) (.lst 2 (List.map q0q.lv r)) (Mem.of []) := by
  unfold q50q at h
  refine bodyT Tryz.func65 R (nT Tryz.ntmps65 R) (LH.wk (Wk.eq (el := [(0, .lst 6 (List.map GBag.lv p0)), (1, Gq0.lv p1), (2, .bool p2)]) (ml := []) R R R R) (LH.seqT [(3, .sptr [.lst 6 (List.map GBag.lv p0)]), (4, .sptr (Gq0.lv p1).cells), (5, .sptr [.bool p2])] [] R (sB (oBxR R R R R (sB (oBxR R R R R (sB (oBxR R R R R (sAn R zS))))))) (LH.seqT [(6, .lst 2 (List.map q0q.lv ([(q0q.mk 8 (FnV.mk 83 [.sptr (Gq0.lv p1).cells] (q23q p1) R)), (q0q.mk 5 (FnV.mk 84 [.sptr [.bool p2]] (q24q p2) R)), (q0q.mk 9 (FnV.mk 85 [.sptr [.lst 6 (List.map GBag.lv p0)], .sptr (Gq0.lv p1).cells] (q25q F p0 p1) R)), (q0q.mk 3 (FnV.mk 88 [.sptr [.lst 6 (List.map GBag.lv p0)]] (q26q p0) R))])))] [] R (sN (oMF (vs := [.sptr (Gq0.lv p1).cells]) R (sN (oBd (vs := [(0, .I 8), (1, .fn 83 [.sptr (Gq0.lv p1).cells])]) tu88 tz88 R (lf tf88_0 ts29 tk29 R R R (lf tf88_1 ts35 tk35 R R R lf0)) (sN (oMF (vs := [.sptr [.bool p2]]) R (sN (oBd (vs := [(0, .I 5), (1, .fn 84 [.sptr [.bool p2]])]) tu88 tz88 R (lf tf88_0 ts29 tk29 R R R (lf tf88_1 ts35 tk35 R R R lf0)) (sN (oMF (vs := [.sptr [.lst 6 (List.map GBag.lv p0)], .sptr (Gq0.lv p1).cells]) R (sN (oBd (vs := [(0, .I 9), (1, .fn 85 [.sptr [.lst 6 (List.map GBag.lv p0)], .sptr (Gq0.lv p1).cells])]) tu88 tz88 R (lf tf88_0 ts29 tk29 R R R (lf tf88_1 ts35 tk35 R R R lf0)) (sN (oMF (vs := [.sptr [.lst 6 (List.map GBag.lv p0)]]) R (sN (oBd (vs := [(0, .I 3), (1, .fn 88 [.sptr [.lst 6 (List.map GBag.lv p0)]])]) tu88 tz88 R (lf tf88_0 ts29 tk29 R R R (lf tf88_1 ts35 tk35 R R R lf0)) (sN (oBS (f := q0q.lv) (ys := [(q0q.mk 8 (FnV.mk 83 [.sptr (Gq0.lv p1).cells] (q23q p1) R)), (q0q.mk 5 (FnV.mk 84 [.sptr [.bool p2]] (q24q p2) R)), (q0q.mk 9 (FnV.mk 85 [.sptr [.lst 6 (List.map GBag.lv p0)], .sptr (Gq0.lv p1).cells] (q25q F p0 p1) R)), (q0q.mk 3 (FnV.mk 88 [.sptr [.lst 6 (List.map GBag.lv p0)]] (q26q p0) R))]) te89 tr88 ts88 R R R q0q.ok (sAl R zS))))))))))))))))))) (LH.ret ?_))))
  obtain rfl := oI h
  exact retE (aT Tryz.results65) (lrT R (lr0 ⟨memN mN, R, prK R, Sub.rfl⟩))
theorem q231q {F : Nat} {p0 : List GBag} {p1 : Gq0} {p2 : Bool} {r : List q0q} (h : q50q F p0 p1 p2 = some r) : ∀ x ∈ r, FnOk Tryz.prog x.holds := by
  unfold q50q at h
  obtain rfl := oI h
  exact (fnC ⟨isF83, fun _ h => q217q h⟩ (fnC ⟨isF84, fun _ h => q218q h⟩ (fnC ⟨isF85, fun _ h => q219q h⟩ (fnC ⟨isF88, fun _ h => q220q h⟩ fnN))))

theorem q221q {c0 : Bool} {r : Bool} (h : q27q c0 = some r) : LCall Tryz.prog 89 [.sptr [.bool c0]] (Mem.of []) (.bool r) (Mem.of []) := by
  unfold q27q at h
  refine bodyT Tryz.func89 R (nT Tryz.ntmps89 R) (LH.wk (Wk.eq (el := [(0, .sptr [.bool c0])]) (ml := []) R R R R) (LH.seqT [(0, .sptr [.bool c0])] [] R (sAb R zS) (LH.seqT [(1, .bool (!c0))] [] R (sN (oLd R tk4 ta4 (sN (oNot R (sAb R zS))))) (LH.ret ?_))))
  obtain rfl := oI h
  exact retE (aT Tryz.results89) (lrT R (lr0 ⟨memN mN, R, prK R, Sub.rfl⟩))

theorem q222q {c0 : List GBag} {c1 : Int} {c2 : Gq0} {r : Bool} (h : q28q c0 c1 c2 = some r) : LCall Tryz.prog 90 [.sptr [.lst 6 (List.map GBag.lv c0)], .sptr [.I c1], .sptr (Gq0.lv c2).cells] (Mem.of []) (.bool r) (Mem.of []) := by
  unfold q28q at h
  refine bodyT Tryz.func90 R (nT Tryz.ntmps90 R) (LH.wk (Wk.eq (el := [(0, .sptr [.lst 6 (List.map GBag.lv c0)]), (1, .sptr [.I c1]), (2, .sptr (Gq0.lv c2).cells)]) (ml := []) R R R R) (LH.seqT [(0, .sptr [.lst 6 (List.map GBag.lv c0)]), (1, .sptr [.I c1]), (2, .sptr (Gq0.lv c2).cells)] [] R (sAb R zS) ?_))
  obtain ⟨w2, hv, h⟩ := bindS h
  refine LH.seqJM mixed [] [0, 0, 0, 0, 0, 0, 0, 0, 0, 0, 0, 0, 0, 0, 0, 0, 0, 0, 0, 0, 0, 0, 0, 0, 0, 0, 0, 0, 0, 0, 0, 0, 0, 0, 0, 0, 0, 0] [(3, .bool w2)] [] R R (by kernel_rfl) ?_ ?_
  ·refine mN0 (oLd R tk27 ta27 ⟨R, mN0 (oLd R tk3 ta3 ⟨R, ?_⟩)⟩)
   obtain ⟨x3, hx3, hv⟩ := bindS hv
   refine mN0 (oIx (f := GBag.lv) te27 tk43 ts43 R R GBag.ok hx3 R ⟨R, mN0 (oFaS tf43_2 tk4 ts4 R R R ⟨R, mN0 (oLd R tk4 ta4 ⟨R, mMb R ?_⟩)⟩)⟩)
   by_cases hb4 : x3.Open = true
   ·replace hv := iteT hv hb4
    refine mF R R hb4 (mF R R hb4 (mF R R hb4 (mF R R hb4 (mF R R hb4 (mF R R hb4 (mF R R hb4 (mF R R hb4 (mN0 (oPkT (cB hb4) (v := (.bool _)) R ⟨R, mMb R (mF R R R (mF R R R (mF R R R (mF R R R (mU R R (mU R R (mU R R (mU R R (mU R R (mF R R R (mN0 (oPkT R (v := (.bool _)) R ⟨R, mMb R (mF R R R (mF R R R (mF R R R (mF R R R (mU R R (mU R R (mU R R (mF R R R (mN0 (oPkT R (v := (.bool _)) R ⟨R, mAb R ?_⟩))))))))))⟩))))))))))))⟩)))))))))
    obtain rfl := oI hv
    exact zM
   ·replace hb4 := bF hb4
    replace hv := iteF hv hb4
    refine mT R (cB hb4) (mN0 (oLd R tk27 ta27 ⟨R, mT R (cB hb4) (mN0 (oLd R tk3 ta3 ⟨R, ?_⟩))⟩))
    obtain ⟨x5, hx5, hv⟩ := bindS hv
    refine mT R (cB hb4) (mN0 (oIx (f := GBag.lv) te27 tk43 ts43 R R GBag.ok hx5 R ⟨R, mT R (cB hb4) (mN0 (oFaS tf43_1 tk3 ts3 R R R ⟨R, mT R (cB hb4) (mN0 (oLd R tk3 ta3 ⟨R, mT R (cB hb4) (mN0 (oFaS tf52_4 tk3 ts3 R R R ⟨R, mT R (cB hb4) (mN0 (oLd R tk3 ta3 ⟨R, mT R (cB hb4) (mN0 (oNe R R ⟨R, mN0 (oPkF (cB hb4) (v := (.bool _)) R ⟨R, mMb R ?_⟩)⟩))⟩))⟩))⟩))⟩))⟩))
    by_cases hb6 : (x5.Holder != c2.From) = true
    ·replace hv := iteT hv hb6
     refine mF R R hb6 (mF R R hb6 (mF R R hb6 (mF R R hb6 (mU R R (mU R R (mU R R (mU R R (mU R R (mF R R hb6 (mN0 (oPkT (cB hb6) (v := (.bool _)) R ⟨R, mMb R (mF R R R (mF R R R (mF R R R (mF R R R (mU R R (mU R R (mU R R (mF R R R (mN0 (oPkT R (v := (.bool _)) R ⟨R, mAb R ?_⟩))))))))))⟩)))))))))))
     obtain rfl := oI hv
     exact zM
    ·replace hb6 := bF hb6
     replace hv := iteF hv hb6
     refine mT R (cB hb6) (mN0 (oFaS tf52_1 tk3 ts3 R R R ⟨R, mT R (cB hb6) (mN0 (oLd R tk3 ta3 ⟨R, mT R (cB hb6) (mN0 (oEq R R ⟨R, mT R (cB hb6) (mMb R ?_)⟩))⟩))⟩))
     by_cases hb7 : (c2.Kind == 2) = true
     ·replace hv := iteT hv hb7
      refine mT R (cB hb7) (mN0 (oFaS tf52_5 tk3 ts3 R R R ⟨R, mT R (cB hb7) (mN0 (oLd R tk3 ta3 ⟨R, mT R (cB hb7) (mN0 (oFaS tf52_4 tk3 ts3 R R R ⟨R, mT R (cB hb7) (mN0 (oLd R tk3 ta3 ⟨R, mT R (cB hb7) (mN0 (oEq R R ⟨R, mT R (cB hb6) (mN0 (oPkT (cB hb7) (v := (.bool _)) R ⟨R, mN0 (oPkF (cB hb6) (v := (.bool _)) R ⟨R, mMb R ?_⟩)⟩))⟩))⟩))⟩))⟩))⟩))
      by_cases hb8 : (c2.To == c2.From) = true
      ·replace hv := iteT hv hb8
       refine mF R R hb8 (mF R R hb8 (mF R R hb8 (mF R R hb8 (mU R R (mU R R (mU R R (mF R R hb8 (mN0 (oPkT (cB hb8) (v := (.bool _)) R ⟨R, mAb R ?_⟩)))))))))
       obtain rfl := oI hv
       exact zM
      ·replace hb8 := bF hb8
       replace hv := iteF hv hb8
       refine mT R (cB hb8) (mN0 (oFaS tf52_1 tk3 ts3 R R R ⟨R, mT R (cB hb8) (mN0 (oLd R tk3 ta3 ⟨R, mT R (cB hb8) (mN0 (oEq R R ⟨R, mT R (cB hb8) (mMb R ?_)⟩))⟩))⟩))
       by_cases hb9 : (c2.Kind == 3) = true
       ·replace hv := iteT hv hb9
        refine mT R (cB hb9) (mN0 (oFaS tf52_4 tk3 ts3 R R R ⟨R, mT R (cB hb9) (mN0 (oLd R tk3 ta3 ⟨R, mT R (cB hb9) (mN0 (oNe R R ⟨R, mT R (cB hb8) (mN0 (oPkT (cB hb9) (v := (.bool _)) R ⟨R, mN0 (oPkF (cB hb8) (v := (.bool _)) R ⟨R, mAb R ?_⟩)⟩))⟩))⟩))⟩))
        obtain rfl := oI hv
        exact zM
       ·replace hb9 := bF hb9
        replace hv := iteF hv hb9
        refine mF R R hb9 (mF R R hb9 (mF R R hb9 (mT R (cB hb8) (mN0 (oPkF (cB hb9) (v := (.bool _)) R ⟨R, mN0 (oPkF (cB hb8) (v := (.bool _)) R ⟨R, mAb R ?_⟩)⟩)))))
        obtain rfl := oI hv
        exact zM
     ·replace hb7 := bF hb7
      replace hv := iteF hv hb7
      refine mF R R hb7 (mF R R hb7 (mF R R hb7 (mF R R hb7 (mF R R hb7 (mT R (cB hb6) (mN0 (oPkF (cB hb7) (v := (.bool _)) R ⟨R, mN0 (oPkF (cB hb6) (v := (.bool _)) R ⟨R, mMb R (mT R R (mN0 (oFaS tf52_1 tk3 ts3 R R R ⟨R, mT R R (mN0 (oLd R tk3 ta3 ⟨R, mT R R (mN0 (oEq R R ⟨R, mT R R (mMb R ?_)⟩))⟩))⟩)))⟩)⟩)))))))
      by_cases hb10 : (c2.Kind == 3) = true
      ·replace hv := iteT hv hb10
       refine mT R (cB hb10) (mN0 (oFaS tf52_4 tk3 ts3 R R R ⟨R, mT R (cB hb10) (mN0 (oLd R tk3 ta3 ⟨R, mT R (cB hb10) (mN0 (oNe R R ⟨R, mT R R (mN0 (oPkT (cB hb10) (v := (.bool _)) R ⟨R, mN0 (oPkF R (v := (.bool _)) R ⟨R, mAb R ?_⟩)⟩))⟩))⟩))⟩))
       obtain rfl := oI hv
       exact zM
      ·replace hb10 := bF hb10
       replace hv := iteF hv hb10
       refine mF R R hb10 (mF R R hb10 (mF R R hb10 (mT R R (mN0 (oPkF (cB hb10) (v := (.bool _)) R ⟨R, mN0 (oPkF R (v := (.bool _)) R ⟨R, mAb R ?_⟩)⟩)))))
       obtain rfl := oI hv
       exact zM
  clear hv
  refine LH.ret ?_
  obtain rfl := oI h
  exact retE (aT Tryz.results90) (lrT R (lr0 ⟨memN mN, R, prK R, Sub.rfl⟩))

theorem q223q {F : Nat} {c0 : Gq0} {c1 : List GBag} {c2 : Int} {r : Bool} (h : q29q F c0 c1 c2 = some r) : LCall Tryz.prog 91 [.sptr (Gq0.lv c0).cells, .sptr [.lst 6 (List.map GBag.lv c1)], .sptr [.I c2]] (Mem.of []) (.bool r) (Mem.of []) := by
  unfold q29q at h
  refine bodyT Tryz.func91 R (nT Tryz.ntmps91 R) (LH.wk (Wk.eq (el := [(0, .sptr (Gq0.lv c0).cells), (1, .sptr [.lst 6 (List.map GBag.lv c1)]), (2, .sptr [.I c2])]) (ml := []) R R R R) (LH.seqT [(0, .sptr (Gq0.lv c0).cells), (1, .sptr [.lst 6 (List.map GBag.lv c1)]), (2, .sptr [.I c2])] [] R (sAb R zS) (LH.seq (LH.seqT [(0, .sptr (Gq0.lv c0).cells), (1, .sptr [.lst 6 (List.map GBag.lv c1)]), (2, .sptr [.I c2]), (7, .bool (c0.Kind == 4))] [] R (sN (oFaS tf52_1 tk3 ts3 R R R (sN (oLd R tk3 ta3 (sN (oEq R R zS)))))) (LH.cond (t := (c0.Kind == 4)) R (fun hc1 => ?_) (fun hc1 => ?_))))))
  ·replace h := iteT h hc1
   obtain ⟨r2, hr2, h⟩ := bindS h
   refine LH.seqT [(3, .bool r2)] [] R (sN (oLd R tk27 ta27 (sN (oFaS tf52_3 tk3 ts3 R R R (sN (oLd R tk3 ta3 (sN (oCP (args := [.lst 6 (List.map GBag.lv c1), .I c0.Seal, .fn 43 []]) R isF86 R (sbR (sbR (sbR sbN))) (q189q (p2_f := 43) (p2_c := []) isF43 R (fun _ _ h => q213q h) hr2) R (sAb R zS))))))))) (LH.ret (thenR ?_))
   obtain rfl := oI h
   exact retE (aT Tryz.results91) (lrT R (lr0 ⟨memN mN, R, prK R, Sub.rfl⟩))
  replace h := iteF h hc1
  refine LH.skip (thenN ?_)
  obtain ⟨x3, hx3, h⟩ := bindS h
  refine LH.seqT [(0, .sptr (Gq0.lv c0).cells), (4, .L x3.Seals)] [] R (sN (oLd R tk27 ta27 (sN (oLd R tk3 ta3 (sN (oIx (f := GBag.lv) te27 tk43 ts43 R R GBag.ok hx3 R (sN (oFaS tf43_3 tk22 ts22 R R R (sN (oLd R tk22 ta22 (sAl R zS))))))))))) ?_
  obtain ⟨x4, hx4, h⟩ := bindS h
  refine LH.seqJM mixed [] [0, 0, 0, 0, 0, 0, 0, 0, 0, 0] [(3, .bool (x4 != c0.Seal))] [] R R (by kernel_rfl) (mMl R (mMl R (mN0 (oLnL (f := LV.I) te22 R ⟨R, mN0 (oSub R R ⟨R, mN0 (oIx (f := LV.I) te22 tk3 ts3 R R okI hx4 R ⟨R, mN0 (oLd R tk3 ta3 ⟨R, mN0 (oFaS tf52_3 tk3 ts3 R R R ⟨R, mN0 (oLd R tk3 ta3 ⟨R, mN0 (oNe R R ⟨R, mAb R zM⟩)⟩)⟩)⟩)⟩)⟩)⟩)))) (LH.ret ?_)
  obtain rfl := oI h
  exact retE (aT Tryz.results91) (lrT R (lr0 ⟨memN mN, R, prK R, Sub.rfl⟩))

theorem q224q {c0 : Gq0} {c1 : List GBag} {c2 : Int} {r : Bool} (h : q30q c0 c1 c2 = some r) : LCall Tryz.prog 92 [.sptr (Gq0.lv c0).cells, .sptr [.lst 6 (List.map GBag.lv c1)], .sptr [.I c2]] (Mem.of []) (.bool r) (Mem.of []) := by
  unfold q30q at h
  refine bodyT Tryz.func92 R (nT Tryz.ntmps92 R) (LH.wk (Wk.eq (el := [(0, .sptr (Gq0.lv c0).cells), (1, .sptr [.lst 6 (List.map GBag.lv c1)]), (2, .sptr [.I c2])]) (ml := []) R R R R) (LH.seqT [(0, .sptr (Gq0.lv c0).cells), (1, .sptr [.lst 6 (List.map GBag.lv c1)]), (2, .sptr [.I c2])] [] R (sAb R zS) ?_))
  obtain ⟨w2, hv, h⟩ := bindS h
  refine LH.seqT [(3, .bool w2)] [] R ?_ ?_
  ·refine sN (oFaS tf52_1 tk3 ts3 R R R (sN (oLd R tk3 ta3 (sN (oEq R R (sMb R ?_))))))
   by_cases hb3 : (c0.Kind == 4) = true
   ·replace hv := iteT hv hb3
    refine sT R (cB hb3) (oLd R tk27 ta27 (sT R (cB hb3) (oLd R tk3 ta3 ?_)))
    obtain ⟨x4, hx4, hv⟩ := bindS hv
    refine sT R (cB hb3) (oIx (f := GBag.lv) te27 tk43 ts43 R R GBag.ok hx4 R (sT R (cB hb3) (oFaS tf43_3 tk22 ts22 R R R (sT R (cB hb3) (oLd R tk22 ta22 (sT R (cB hb3) (oLnL (f := LV.I) te22 R (sT R (cB hb3) (oGe R R (sN (oPkT (cB hb3) (v := (.bool _)) R (sAb R ?_))))))))))))
    obtain rfl := oI hv
    exact zS
   ·replace hb3 := bF hb3
    replace hv := iteF hv hb3
    refine sF R R hb3 (sF R R hb3 (sF R R hb3 (sF R R hb3 (sF R R hb3 (sF R R hb3 (sF R R hb3 (sN (oPkF (cB hb3) (v := (.bool _)) R (sAb R ?_)))))))))
    obtain rfl := oI hv
    exact zS
  clear hv
  refine LH.ret ?_
  obtain rfl := oI h
  exact retE (aT Tryz.results92) (lrT R (lr0 ⟨memN mN, R, prK R, Sub.rfl⟩))

theorem q234q {F : Nat} {p0 : List GBag} {p1 : Gq0} {p2 : Int} {p3 : Bool} {r : List q0q} (h : q51q F p0 p1 p2 p3 = some r) : LCall Tryz.prog 66 [.lst 6 (List.map GBag.lv p0), Gq0.lv p1, .I p2, .bool p3] (Mem.of []) (.lst 2 (List.map q0q.lv r)) (Mem.of []) := by
  unfold q51q at h
  refine bodyT Tryz.func66 R (nT Tryz.ntmps66 R) (LH.wk (Wk.eq (el := [(0, .lst 6 (List.map GBag.lv p0)), (1, Gq0.lv p1), (2, .I p2), (3, .bool p3)]) (ml := []) R R R R) (LH.seqT [(4, .sptr [.lst 6 (List.map GBag.lv p0)]), (5, .sptr (Gq0.lv p1).cells), (6, .sptr [.I p2]), (7, .sptr [.bool p3])] [] R (sB (oBxR R R R R (sB (oBxR R R R R (sB (oBxR R R R R (sB (oBxR R R R R (sAn R zS))))))))) (LH.seqT [(8, .lst 2 (List.map q0q.lv ([(q0q.mk 4 (FnV.mk 89 [.sptr [.bool p3]] (q27q p3) R)), (q0q.mk 8 (FnV.mk 90 [.sptr [.lst 6 (List.map GBag.lv p0)], .sptr [.I p2], .sptr (Gq0.lv p1).cells] (q28q p0 p2 p1) R)), (q0q.mk 9 (FnV.mk 91 [.sptr (Gq0.lv p1).cells, .sptr [.lst 6 (List.map GBag.lv p0)], .sptr [.I p2]] (q29q F p1 p0 p2) R)), (q0q.mk 3 (FnV.mk 92 [.sptr (Gq0.lv p1).cells, .sptr [.lst 6 (List.map GBag.lv p0)], .sptr [.I p2]] (q30q p1 p0 p2) R))])))] [] R (sN (oMF (vs := [.sptr [.bool p3]]) R (sN (oBd (vs := [(0, .I 4), (1, .fn 89 [.sptr [.bool p3]])]) tu88 tz88 R (lf tf88_0 ts29 tk29 R R R (lf tf88_1 ts35 tk35 R R R lf0)) (sN (oMF (vs := [.sptr [.lst 6 (List.map GBag.lv p0)], .sptr [.I p2], .sptr (Gq0.lv p1).cells]) R (sN (oBd (vs := [(0, .I 8), (1, .fn 90 [.sptr [.lst 6 (List.map GBag.lv p0)], .sptr [.I p2], .sptr (Gq0.lv p1).cells])]) tu88 tz88 R (lf tf88_0 ts29 tk29 R R R (lf tf88_1 ts35 tk35 R R R lf0)) (sN (oMF (vs := [.sptr (Gq0.lv p1).cells, .sptr [.lst 6 (List.map GBag.lv p0)], .sptr [.I p2]]) R (sN (oBd (vs := [(0, .I 9), (1, .fn 91 [.sptr (Gq0.lv p1).cells, .sptr [.lst 6 (List.map GBag.lv p0)], .sptr [.I p2]])]) tu88 tz88 R (lf tf88_0 ts29 tk29 R R R (lf tf88_1 ts35 tk35 R R R lf0)) (sN (oMF (vs := [.sptr (Gq0.lv p1).cells, .sptr [.lst 6 (List.map GBag.lv p0)], .sptr [.I p2]]) R (sN (oBd (vs := [(0, .I 3), (1, .fn 92 [.sptr (Gq0.lv p1).cells, .sptr [.lst 6 (List.map GBag.lv p0)], .sptr [.I p2]])]) tu88 tz88 R (lf tf88_0 ts29 tk29 R R R (lf tf88_1 ts35 tk35 R R R lf0)) (sN (oBS (f := q0q.lv) (ys := [(q0q.mk 4 (FnV.mk 89 [.sptr [.bool p3]] (q27q p3) R)), (q0q.mk 8 (FnV.mk 90 [.sptr [.lst 6 (List.map GBag.lv p0)], .sptr [.I p2], .sptr (Gq0.lv p1).cells] (q28q p0 p2 p1) R)), (q0q.mk 9 (FnV.mk 91 [.sptr (Gq0.lv p1).cells, .sptr [.lst 6 (List.map GBag.lv p0)], .sptr [.I p2]] (q29q F p1 p0 p2) R)), (q0q.mk 3 (FnV.mk 92 [.sptr (Gq0.lv p1).cells, .sptr [.lst 6 (List.map GBag.lv p0)], .sptr [.I p2]] (q30q p1 p0 p2) R))]) te89 tr88 ts88 R R R q0q.ok (sAl R zS))))))))))))))))))) (LH.ret ?_))))
  obtain rfl := oI h
  exact retE (aT Tryz.results66) (lrT R (lr0 ⟨memN mN, R, prK R, Sub.rfl⟩))
theorem q233q {F : Nat} {p0 : List GBag} {p1 : Gq0} {p2 : Int} {p3 : Bool} {r : List q0q} (h : q51q F p0 p1 p2 p3 = some r) : ∀ x ∈ r, FnOk Tryz.prog x.holds := by
  unfold q51q at h
  obtain rfl := oI h
  exact (fnC ⟨isF89, fun _ h => q221q h⟩ (fnC ⟨isF90, fun _ h => q222q h⟩ (fnC ⟨isF91, fun _ h => q223q h⟩ (fnC ⟨isF92, fun _ h => q224q h⟩ fnN))))

theorem q230q {F : Nat} {p0 : List q0q} {r : Int} (p0_h : ∀ x ∈ p0, FnOk Tryz.prog x.holds) (h : q167q F p0 = some r) : LCall Tryz.prog 67 [.lst 2 (List.map q0q.lv p0)] (Mem.of []) (.I r) (Mem.of []) := by
  unfold q167q at h
  refine bodyT Tryz.func67 R (nT Tryz.ntmps67 R) (LH.wk (Wk.to (el := [(0, .lst 2 (List.map q0q.lv p0))]) (ml := []) (eQ ⟨R, trivial⟩) mN (by simp [keptRefs, LV.refs, LV.refsL, LV.cells, lev, Env.args, Env.of, Env.put, Env.drop, FnV.refs]) (prK R)) (LH.seqT [(0, .lst 2 (List.map q0q.lv p0))] [] R (sAi R (s0 (Wk.to (eQ ⟨R, trivial⟩) mN (by simp [keptRefs, LV.refs, LV.refsL, LV.cells, lev, Env.args, Env.of, Env.put, Env.drop, FnV.refs]) (prK R)))) (LH.seq (LH.seqT [(5, .lst 2 (List.map q0q.lv p0)), (6, .I (p0.length : Int)), (7, .I 0)] [] R (sMl R (sN (oLnL (f := q0q.lv) te89 R (sMi R (s0 (Wk.to (eQ ⟨R, R, R, trivial⟩) mN (by simp [keptRefs, LV.refs, LV.refsL, LV.cells, lev, Env.args, Env.of, Env.put, Env.drop, FnV.refs]) (prK R))))))) (LH.block (LH.loop (fun n e m => ∃ (n1 : Int), q66q p0 n n1 = some r ∧ e = Env.of [(5, .lst 2 (List.map q0q.lv p0)), (6, .I (p0.length : Int)), (7, .I n1)] ∧ m = Mem.of []) F ⟨0, h, R, R⟩ ?_))))))
  clear h
  rintro n e m ⟨n1, h, rfl, rfl⟩
  rcases n with _ | n
  · cases (show Option.none = some _ from h)
  obtain ⟨rec1, hrec1⟩ : ∃ f, f = q66q p0 n := ⟨_, rfl⟩
  replace h : q113q p0 rec1 n1 = some r := hrec1 ▸ h
  unfold q113q at h
  refine LH.seqT [(5, .lst 2 (List.map q0q.lv p0)), (6, .I (p0.length : Int)), (7, .I n1), (8, .bool (decide (n1 < (p0.length : Int))))] [] R (sN (oLt R R (s0 (Wk.to (eQ ⟨R, R, R, R, trivial⟩) mN (by simp [keptRefs, LV.refs, LV.refsL, LV.cells, lev, Env.args, Env.of, Env.put, Env.drop, FnV.refs]) (prK R))))) (LH.seq (LH.cond (t := (decide (n1 < (p0.length : Int)))) R (fun hc2 => ?_) (fun hc2 => ?_)))
  ·replace h := iteT h hc2
   refine LH.skip (thenN (LH.wk (Wk.to (el := [(5, .lst 2 (List.map q0q.lv p0)), (6, .I (p0.length : Int)), (7, .I n1)]) (ml := []) (eQ ⟨R, R, R, trivial⟩) mN (by simp [keptRefs, LV.refs, LV.refsL, LV.cells, lev, Env.args, Env.of, Env.put, Env.drop, FnV.refs]) (prK R)) (LH.seq (LH.block ?_))))
   obtain ⟨x3, hx3, h⟩ := bindS h
   refine LH.seqT [(4, .ptr 104 0), (5, .lst 2 (List.map q0q.lv p0)), (6, .I (p0.length : Int)), (7, .I n1)] [(104, .box [.I x3.code, .fn x3.holds.f x3.holds.c])] R (sN (oIx (f := q0q.lv) te89 tk88 ts88 R R q0q.ok hx3 R (sN (oLdA R tk88 ta88 ts88 R R (sN (oAl (id := 104) R tz88 R R (s_ (oSt R R R tk88 ts88 R R R (s0 (Wk.to (eQ ⟨R, R, R, R, trivial⟩) ⟨R, trivial⟩ (by simp [keptRefs, LV.refs, LV.refsL, LV.cells, lev, Env.args, Env.of, Env.put, Env.drop, FnV.refs]) (prK R))))))))))) ?_
   obtain ⟨r4, hr4, h⟩ := bindS h
   refine LH.seqT [(4, .ptr 104 0), (5, .lst 2 (List.map q0q.lv p0)), (6, .I (p0.length : Int)), (7, .I n1), (13, .bool r4)] [(104, .box [.I x3.code, .fn x3.holds.f x3.holds.c])] R (sN (oFa tf88_1 tk35 ts35 R R (sN (oLdP R R R R tk35 ta35 (sN (oCP (args := x3.holds.c) (args' := x3.holds.c) R (p0_h _ (idxMem hx3)).1 R SubL.rfl ((p0_h _ (idxMem hx3)).2 _ hr4) x3.holds.hc (s0 (Wk.to (eQ ⟨R, R, R, R, R, trivial⟩) ⟨R, trivial⟩ (by simp [keptRefs, LV.refs, LV.refsL, LV.cells, lev, Env.args, Env.of, Env.put, Env.drop, FnV.refs]) (prK R))))))))) (LH.cond (t := r4) R (fun hc5 => ?_) (fun hc5 => ?_))
   ·replace h := iteT h hc5
    refine LH.seqT [(2, .I x3.code)] [] R (sN (oFa tf88_0 tk29 ts29 R R (sN (oLdP R R R R tk29 ta29 (sAi R (s0 (Wk.to (eQ ⟨R, trivial⟩) mN (by simp [keptRefs, LV.refs, LV.refsL, LV.cells, lev, Env.args, Env.of, Env.put, Env.drop, FnV.refs]) (prK R)))))))) (LH.ret (blockR (thenR (roundR (blockR (thenR ?_))))))
    obtain rfl := oI h
    exact retE (aT Tryz.results67) (lrT R (lr0 ⟨memN mN, R, prK R, Sub.rfl⟩))
   replace h := iteF h hc5
   refine LH.skip (blockN (thenN (LH.loneT [(5, .lst 2 (List.map q0q.lv p0)), (6, .I (p0.length : Int)), (7, .I (i64 (n1 + 1)))] [] R (sN (oAdd R R (sMi R (s0 (Wk.to (eQ ⟨R, R, R, trivial⟩) mN (by simp [keptRefs, LV.refs, LV.refsL, LV.cells, lev, Env.args, Env.of, Env.put, Env.drop, FnV.refs]) (prK R)))))) ?_)))
   exact roundI ⟨(i64 (n1 + 1)), hrec1 ▸ h, R, R⟩ (Wk.to (eQ ⟨R, R, R, trivial⟩) mN (by simp [keptRefs, LV.refs, LV.refsL, LV.cells, lev, Env.args, Env.of, Env.put, Env.drop, FnV.refs]) (prK R))
  replace h := iteF h hc2
  refine LH.exit (thenX (roundX (blockH (thenN (LH.seqT [(2, .I 0)] [] R (sAi R (s0 (Wk.to (eQ ⟨R, trivial⟩) mN (by simp [keptRefs, LV.refs, LV.refsL, LV.cells, lev, Env.args, Env.of, Env.put, Env.drop, FnV.refs]) (prK R)))) (LH.ret ?_))))))
  obtain rfl := oI h
  exact retE (aT Tryz.results67) (lrT R (lr0 ⟨memN mN, R, prK R, Sub.rfl⟩))

theorem q208q {p0 : GBag} {r : GBag} (h : q53q p0 = some r) : LCall Tryz.prog 38 [GBag.lv p0] (Mem.of []) (.agg [.I r.Bag, .I r.Holder, .bool r.Open, .arr 105 (List.length r.Seals), .L r.Packed, .L r.Found]) (Mem.of [(105, .arr 3 1 (List.map LV.I r.Seals))]) := by
  unfold q53q at h
  refine bodyT Tryz.func38 R (nT Tryz.ntmps38 R) (LH.wk (Wk.eq (el := [(0, GBag.lv p0)]) (ml := []) R R R R) (LH.seqT [(1, .ptr 101 0), (2, .ptr 102 0)] [(101, .box (GBag.lv p0).cells), (102, .box [.I 0, .I 0, .bool false, .nil, .nil, .nil])] R (sN (oBx (id := 101) R R R R R R (sN (oAl (id := 102) R tz43 R R zS)))) ?_))
  obtain ⟨v1, hv1, h⟩ := bindS h
  refine LH.seqT [(1, .ptr 101 0), (2, .ptr 102 0)] [(101, .box [.I p0.Bag, .I p0.Holder, .bool p0.Open, .arr 105 (List.length v1), .L p0.Packed, .L p0.Found]), (102, .box [.I 0, .I 0, .bool false, .nil, .nil, .nil]), (105, .arr 3 1 (List.map LV.I v1))] R (sN (oFa tf43_3 tk22 ts22 R R (sN (oLdP R R R R tk22 ta22 (sN (oCM (args := [.L p0.Seals]) (ml := []) (ml' := [(105, .arr 3 1 (List.map LV.I v1))]) R isF58 R (sbR sbN) (clone_ok (g := LV.I) cloneW58 R 105 hv1) mN (newF R newN) R (sN (oFa tf43_3 tk22 ts22 R R (s_ (oSt R R R tk22 ts22 R R R zS)))))))))) ?_
  obtain ⟨v2, hv2, h⟩ := bindS h
  refine LH.seqT [(1, .ptr 101 0), (2, .ptr 102 0)] [(101, .box [.I p0.Bag, .I p0.Holder, .bool p0.Open, .arr 105 (List.length v1), .L v2, .L p0.Found]), (102, .box [.I 0, .I 0, .bool false, .nil, .nil, .nil]), (105, .arr 3 1 (List.map LV.I v1))] R (sN (oFa tf43_4 tk22 ts22 R R (sN (oLdP R R R R tk22 ta22 (sN (oCP (args := [.L p0.Packed]) R isF58 R (sbR sbN) (LCall.frz (clone_ok (g := LV.I) cloneW58 R 109 hv2) R) R (sN (oFa tf43_4 tk22 ts22 R R (s_ (oSt R R R tk22 ts22 R R R zS)))))))))) ?_
  obtain ⟨v3, hv3, h⟩ := bindS h
  refine LH.seqT [(1, .ptr 101 0), (2, .ptr 102 0)] [(101, .box [.I p0.Bag, .I p0.Holder, .bool p0.Open, .arr 105 (List.length v1), .L v2, .L v3]), (102, .box [.I 0, .I 0, .bool false, .nil, .nil, .nil]), (105, .arr 3 1 (List.map LV.I v1))] R (sN (oFa tf43_5 tk22 ts22 R R (sN (oLdP R R R R tk22 ta22 (sN (oCP (args := [.L p0.Found]) R isF58 R (sbR sbN) (LCall.frz (clone_ok (g := LV.I) cloneW58 R 113 hv3) R) R (sN (oFa tf43_5 tk22 ts22 R R (s_ (oSt R R R tk22 ts22 R R R zS)))))))))) (LH.seqT [(2, .ptr 102 0)] [(102, .box [.I p0.Bag, .I p0.Holder, .bool p0.Open, .arr 105 (List.length v1), .L v2, .L v3]), (105, .arr 3 1 (List.map LV.I v1))] R (sN (oLdPA R R R tk43 ta43 ts43 R R (s_ (oSt R R R tk43 ts43 R R R zS)))) (LH.ret ?_))
  obtain rfl := oI h
  exact retE (aT Tryz.results38) (lrCA R R R tk43 ta43 ts43 R R (lr0 ⟨memN (mC R mN), R, prK R, Sub.rfl⟩))

theorem q199q {F : Nat} {p0 : List GBag} {r : List GBag} (h : q101q F p0 = some r) : LCall Tryz.prog 68 [.lst 6 (List.map GBag.lv p0)] (Mem.of []) (.arr 8 (List.length r)) (Mem.of [(8, .nest 43 6 [(3, 3, 1)] (List.map GBag.lv r))]) := by
  unfold q101q at h
  refine bodyT Tryz.func68 R (nT Tryz.ntmps68 R) (LH.wk (Wk.eq (el := [(0, .lst 6 (List.map GBag.lv p0))]) (ml := []) R R R R) (LH.seqT [(0, .lst 6 (List.map GBag.lv p0))] [] R (sAn R zS) ?_))
  obtain ⟨v1, hv1, h⟩ := bindS h
  refine LH.seqT [(0, .lst 6 (List.map GBag.lv p0)), (3, .arr 8 (List.length v1))] [(8, .nest 43 6 [(3, 3, 1)] (List.map GBag.lv v1))] R (sMl R (sN (oLnL (f := GBag.lv) te27 R (sX ((ok_mkG (f := GBag.lv) (z' := (GBag.mk 0 0 false [] [] [])) (v := v1) (id := 8) (os := [(3, 3, 1)]) te27 tz43 tr43 ts43 R R hv1 R R (snR R R (snR R R (snR R R (snO R (snL R (snL R snN)))))) R).ok) (sAa R zS))))) (LH.seq (LH.seqT [(3, .arr 8 (List.length v1)), (9, .lst 6 (List.map GBag.lv p0)), (10, .I (p0.length : Int)), (11, .I 0)] [(8, .nest 43 6 [(3, 3, 1)] (List.map GBag.lv v1))] R (sMl R (sN (oLnL (f := GBag.lv) te27 R (sMi R zS)))) (LH.block (LH.loop (fun n e m => ∃ (n2 : Int) (l3 : List GBag), q44q p0 n n2 l3 = some r ∧ e = Env.of [(3, .arr 8 (List.length l3)), (9, .lst 6 (List.map GBag.lv p0)), (10, .I (p0.length : Int)), (11, .I n2)] ∧ m = Mem.of [(8, .nest 43 6 [(3, 3, 1)] (List.map GBag.lv l3))]) F ⟨0, v1, h, R, R⟩ ?_))))
  clear h
  rintro n e m ⟨n2, l3, h, rfl, rfl⟩
  rcases n with _ | n
  · cases (show Option.none = some _ from h)
  obtain ⟨rec1, hrec1⟩ : ∃ f, f = q44q p0 n := ⟨_, rfl⟩
  replace h : q64q p0 rec1 n2 l3 = some r := hrec1 ▸ h
  unfold q64q at h
  refine LH.seqT [(3, .arr 8 (List.length l3)), (9, .lst 6 (List.map GBag.lv p0)), (10, .I (p0.length : Int)), (11, .I n2), (12, .bool (decide (n2 < (p0.length : Int))))] [(8, .nest 43 6 [(3, 3, 1)] (List.map GBag.lv l3))] R (sN (oLt R R zS)) (LH.seq (LH.cond (t := (decide (n2 < (p0.length : Int)))) R (fun hc4 => ?_) (fun hc4 => ?_)))
  ·replace h := iteT h hc4
   refine LH.skip (thenN (LH.wk (Wk.eq (el := [(3, .arr 8 (List.length l3)), (9, .lst 6 (List.map GBag.lv p0)), (10, .I (p0.length : Int)), (11, .I n2)]) (ml := [(8, .nest 43 6 [(3, 3, 1)] (List.map GBag.lv l3))]) R R R R) (LH.seq (LH.block ?_))))
   obtain ⟨x5, hx5, h⟩ := bindS h
   refine LH.seqT [(3, .arr 8 (List.length l3)), (4, .I n2), (5, .sptr (GBag.lv x5).cells), (9, .lst 6 (List.map GBag.lv p0)), (10, .I (p0.length : Int)), (11, .I n2)] [(8, .nest 43 6 [(3, 3, 1)] (List.map GBag.lv l3))] R (sMi R (sN (oIx (f := GBag.lv) te27 tk43 ts43 R R GBag.ok hx5 R (sN (oLdA R tk43 ta43 ts43 R R (sN (oAl (id := 105) R tz43 R R (sAi R (s_ (oSt R R R tk43 ts43 R R R (s0 ((Wk.trans (Wk.eq (el := [(3, .arr 8 (List.length l3)), (4, .I n2), (5, .ptr 105 0), (9, .lst 6 (List.map GBag.lv p0)), (10, .I (p0.length : Int)), (11, .I n2)]) (ml := [(8, .nest 43 6 [(3, 3, 1)] (List.map GBag.lv l3)), (105, .box (GBag.lv x5).cells)]) R R R R) (Wk.trans (Wk.frzB 105 (GBag.lv x5).cells R R R (prN R)) (Wk.eq R R R R))))))))))))))) ?_
   obtain ⟨r6, hr6, h⟩ := bindS h
   obtain ⟨x7, hx7, h⟩ := bindS h
   refine LH.loneT [(3, .arr 8 (List.length (l3.set (n2).toNat r6))), (9, .lst 6 (List.map GBag.lv p0)), (10, .I (p0.length : Int)), (11, .I n2)] [(8, .nest 43 6 [(3, 3, 1)] (List.map GBag.lv (l3.set (n2).toNat r6)))] R (sMa R (sMi R (sN (oLdA R tk43 ta43 ts43 R R (sN (oCM (args := [GBag.lv x5]) (ml := []) (ml' := [(105, .arr 3 1 (List.map LV.I r6.Seals))]) R isF38 R (sbR sbN) (q208q hr6) mN (newF R newN) R (sX ((ok_ixF (f := GBag.lv) (xs := l3) te27 tk43 ts43 R R R R hx7).ok) (sX_ ((ok_stA (f := GBag.lv) (xs := l3) (z' := r6) R R R hx7 R tk43 ts43 R R (abP R R (abP R R (abP R R (abA (g := LV.I) (ys := r6.Seals) R R (abP R R (abP R R abN)))))) (by decide) (fnC (prN R) fnN) R).ok) (s0 (Wk.to (eC (congrArg (LV.arr 8) (by simp)) (eC R (eC R (eC R eN)))) ⟨R, trivial⟩ R (prK R))))))))))) (blockN (thenN (LH.loneT [(3, .arr 8 (List.length (l3.set (n2).toNat r6))), (9, .lst 6 (List.map GBag.lv p0)), (10, .I (p0.length : Int)), (11, .I (i64 (n2 + 1)))] [(8, .nest 43 6 [(3, 3, 1)] (List.map GBag.lv (l3.set (n2).toNat r6)))] R (sN (oAdd R R (sMi R zS))) ?_)))
   exact roundI ⟨(i64 (n2 + 1)), (l3.set (n2).toNat r6), hrec1 ▸ h, R, R⟩ (Wk.eq R R R R)
  replace h := iteF h hc4
  refine LH.exit (thenX (roundX (blockH (thenN (LH.seqT [(2, .arr 8 (List.length l3))] [(8, .nest 43 6 [(3, 3, 1)] (List.map GBag.lv l3))] R (sMa R (sAa R zS)) (LH.ret ?_))))))
  obtain rfl := oI h
  exact retE (aT Tryz.results68) (lrT R (lr0 ⟨memN (mC R mN), R, prK R, Sub.rfl⟩))

set_option maxHeartbeats 4000000 in
theorem q267q {F : Nat} {p0 : List GBag} {p1 : Gq0} {r : List GBag × Int} (h : q181q F p0 p1 = some r) : LCall Tryz.prog 34 [.lst 6 (List.map GBag.lv p0), .agg [.I p1.Stamp.Time, .I p1.Stamp.Source, .I p1.Stamp.Seq, .I p1.Kind, .I p1.Bag, .I p1.Seal, .I p1.From, .I p1.To, .L p1.Candidates]] (Mem.of []) (.tup [.lst 6 (List.map GBag.lv r.1), .I r.2]) (Mem.of []) := by
  unfold q181q at h
  refine bodyT Tryz.func34 R (nT Tryz.ntmps34 R) ?_
  refine LH.wk (Wk.eq (el := [(0, .lst 6 (List.map GBag.lv p0)), (1, .agg [.I p1.Stamp.Time, .I p1.Stamp.Source, .I p1.Stamp.Seq, .I p1.Kind, .I p1.Bag, .I p1.Seal, .I p1.From, .I p1.To, .L p1.Candidates])]) (ml := []) R R R R) ?_
  refine LH.seqT [(0, .lst 6 (List.map GBag.lv p0)), (3, .sptr [.I p1.Stamp.Time, .I p1.Stamp.Source, .I p1.Stamp.Seq, .I p1.Kind, .I p1.Bag, .I p1.Seal, .I p1.From, .I p1.To, .L p1.Candidates])] [] R ?_ ?_
  ·refine sB (oBxR R R R R ?_)
   refine sAn R ?_
   refine sAi R ?_
   exact zS
  obtain ⟨r1, hr1, h⟩ := bindS h
  refine LH.seqT [(0, .lst 6 (List.map GBag.lv p0)), (3, .sptr [.I p1.Stamp.Time, .I p1.Stamp.Source, .I p1.Stamp.Seq, .I p1.Kind, .I p1.Bag, .I p1.Seal, .I p1.From, .I p1.To, .L p1.Candidates]), (6, .I r1.1), (7, .bool r1.2)] [] R ?_ ?_
  ·refine sMl R ?_
   refine sN (oFaS tf52_2 tk3 ts3 R R R ?_)
   refine sN (oLd R tk3 ta3 ?_)
   refine sN (oCP (args := [.lst 6 (List.map GBag.lv p0), .I p1.Bag, .fn 60 []]) R isF59 R (sbR (sbR (sbR sbN))) (q176q (p2_f := 60) (p2_c := []) isF60 R (fun _ _ _ h => q252q h) hr1) R ?_)
   refine sMt R ?_
   refine sN (oEx R R ?_)
   refine sN (oEx R R ?_)
   refine sAi R ?_
   refine sAb R ?_
   exact zS
  refine LH.seqT [(0, .lst 6 (List.map GBag.lv p0)), (3, .sptr [.I p1.Stamp.Time, .I p1.Stamp.Source, .I p1.Stamp.Seq, .I p1.Kind, .I p1.Bag, .I p1.Seal, .I p1.From, .I p1.To, .L p1.Candidates]), (6, .I r1.1), (7, .bool r1.2), (8, .arr 123 (List.length ([(q0q.mk 2 (FnV.mk 62 [.sptr [.I p1.Stamp.Time, .I p1.Stamp.Source, .I p1.Stamp.Seq, .I p1.Kind, .I p1.Bag, .I p1.Seal, .I p1.From, .I p1.To, .L p1.Candidates]] (q18q F p1) R)), (q0q.mk 28 (FnV.mk 64 [.sptr [.I p1.Stamp.Time, .I p1.Stamp.Source, .I p1.Stamp.Seq, .I p1.Kind, .I p1.Bag, .I p1.Seal, .I p1.From, .I p1.To, .L p1.Candidates]] (q19q p1) R))])))] [(123, .arr 88 2 (List.map q0q.lv ([(q0q.mk 2 (FnV.mk 62 [.sptr [.I p1.Stamp.Time, .I p1.Stamp.Source, .I p1.Stamp.Seq, .I p1.Kind, .I p1.Bag, .I p1.Seal, .I p1.From, .I p1.To, .L p1.Candidates]] (q18q F p1) R)), (q0q.mk 28 (FnV.mk 64 [.sptr [.I p1.Stamp.Time, .I p1.Stamp.Source, .I p1.Stamp.Seq, .I p1.Kind, .I p1.Bag, .I p1.Seal, .I p1.From, .I p1.To, .L p1.Candidates]] (q19q p1) R))])))] R ?_ ?_
  ·refine sN (oMF (vs := [.sptr [.I p1.Stamp.Time, .I p1.Stamp.Source, .I p1.Stamp.Seq, .I p1.Kind, .I p1.Bag, .I p1.Seal, .I p1.From, .I p1.To, .L p1.Candidates]]) R ?_)
   refine sN (oBd (vs := [(0, .I 2), (1, .fn 62 [.sptr [.I p1.Stamp.Time, .I p1.Stamp.Source, .I p1.Stamp.Seq, .I p1.Kind, .I p1.Bag, .I p1.Seal, .I p1.From, .I p1.To, .L p1.Candidates]])]) tu88 tz88 R (lf tf88_0 ts29 tk29 R R R (lf tf88_1 ts35 tk35 R R R lf0)) ?_)
   refine sN (oMF (vs := [.sptr [.I p1.Stamp.Time, .I p1.Stamp.Source, .I p1.Stamp.Seq, .I p1.Kind, .I p1.Bag, .I p1.Seal, .I p1.From, .I p1.To, .L p1.Candidates]]) R ?_)
   refine sN (oBd (vs := [(0, .I 28), (1, .fn 64 [.sptr [.I p1.Stamp.Time, .I p1.Stamp.Source, .I p1.Stamp.Seq, .I p1.Kind, .I p1.Bag, .I p1.Seal, .I p1.From, .I p1.To, .L p1.Candidates]])]) tu88 tz88 R (lf tf88_0 ts29 tk29 R R R (lf tf88_1 ts35 tk35 R R R lf0)) ?_)
   refine sX (ok_bsA (g := q0q.lv) (ys := [(q0q.mk 2 (FnV.mk 62 [.sptr [.I p1.Stamp.Time, .I p1.Stamp.Source, .I p1.Stamp.Seq, .I p1.Kind, .I p1.Bag, .I p1.Seal, .I p1.From, .I p1.To, .L p1.Candidates]] (q18q F p1) R)), (q0q.mk 28 (FnV.mk 64 [.sptr [.I p1.Stamp.Time, .I p1.Stamp.Source, .I p1.Stamp.Seq, .I p1.Kind, .I p1.Bag, .I p1.Seal, .I p1.From, .I p1.To, .L p1.Candidates]] (q19q p1) R))]) (id := 123) te89 tr88 ts88 R R R q0q.ok R) ?_
   refine sAa R ?_
   exact zS
  refine LH.seq ?_
  refine LH.seqT [(0, .lst 6 (List.map GBag.lv p0)), (3, .sptr [.I p1.Stamp.Time, .I p1.Stamp.Source, .I p1.Stamp.Seq, .I p1.Kind, .I p1.Bag, .I p1.Seal, .I p1.From, .I p1.To, .L p1.Candidates]), (6, .I r1.1), (7, .bool r1.2), (8, .arr 123 (List.length ([(q0q.mk 2 (FnV.mk 62 [.sptr [.I p1.Stamp.Time, .I p1.Stamp.Source, .I p1.Stamp.Seq, .I p1.Kind, .I p1.Bag, .I p1.Seal, .I p1.From, .I p1.To, .L p1.Candidates]] (q18q F p1) R)), (q0q.mk 28 (FnV.mk 64 [.sptr [.I p1.Stamp.Time, .I p1.Stamp.Source, .I p1.Stamp.Seq, .I p1.Kind, .I p1.Bag, .I p1.Seal, .I p1.From, .I p1.To, .L p1.Candidates]] (q19q p1) R))]))), (26, .bool (p1.Kind == 1))] [(123, .arr 88 2 (List.map q0q.lv ([(q0q.mk 2 (FnV.mk 62 [.sptr [.I p1.Stamp.Time, .I p1.Stamp.Source, .I p1.Stamp.Seq, .I p1.Kind, .I p1.Bag, .I p1.Seal, .I p1.From, .I p1.To, .L p1.Candidates]] (q18q F p1) R)), (q0q.mk 28 (FnV.mk 64 [.sptr [.I p1.Stamp.Time, .I p1.Stamp.Source, .I p1.Stamp.Seq, .I p1.Kind, .I p1.Bag, .I p1.Seal, .I p1.From, .I p1.To, .L p1.Candidates]] (q19q p1) R))])))] R ?_ ?_
  ·refine sN (oFaS tf52_1 tk3 ts3 R R R ?_)
   refine sN (oLd R tk3 ta3 ?_)
   refine sN (oEq R R ?_)
   exact zS
  refine LH.cond (t := (p1.Kind == 1)) R (fun hc2 => ?_) (fun hc2 => ?_)
  ·replace h := iteT h hc2
   obtain ⟨r3, hr3, h⟩ := bindS h
   obtain ⟨v4, hv4, h⟩ := bindS h
   refine LH.loneT [(0, .lst 6 (List.map GBag.lv p0)), (3, .sptr [.I p1.Stamp.Time, .I p1.Stamp.Source, .I p1.Stamp.Seq, .I p1.Kind, .I p1.Bag, .I p1.Seal, .I p1.From, .I p1.To, .L p1.Candidates]), (6, .I r1.1), (8, .lst 2 (List.map q0q.lv v4))] [] R ?_ ?_
   ·refine sMa R ?_
    refine sMl R ?_
    refine sN (oLdA R tk52 ta52 ts52 R R ?_)
    refine sMb R ?_
    refine sN (oCP (args := [.lst 6 (List.map GBag.lv p0), .agg [.I p1.Stamp.Time, .I p1.Stamp.Source, .I p1.Stamp.Seq, .I p1.Kind, .I p1.Bag, .I p1.Seal, .I p1.From, .I p1.To, .L p1.Candidates], .bool r1.2]) R isF65 R (sbR (sbR (sbR sbN))) (q232q hr3) R ?_)
    refine sN (oAp (f := q0q.lv) te89 tr88 ts88 R R (prN R) R hv4 ?_)
    refine sAa R ?_
    exact s0 ((Wk.trans (Wk.eq (el := [(0, .lst 6 (List.map GBag.lv p0)), (3, .sptr [.I p1.Stamp.Time, .I p1.Stamp.Source, .I p1.Stamp.Seq, .I p1.Kind, .I p1.Bag, .I p1.Seal, .I p1.From, .I p1.To, .L p1.Candidates]), (6, .I r1.1), (8, .arr 123 (List.length v4))]) (ml := [(123, .arr 88 2 (List.map q0q.lv v4))]) R R R R) (Wk.trans (Wk.frzL (f := q0q.lv) (el' := [(0, .lst 6 (List.map GBag.lv p0)), (3, .sptr [.I p1.Stamp.Time, .I p1.Stamp.Source, .I p1.Stamp.Seq, .I p1.Kind, .I p1.Bag, .I p1.Seal, .I p1.From, .I p1.To, .L p1.Candidates]), (6, .I r1.1), (8, .lst 2 (List.map q0q.lv v4))]) 123 88 2 v4 R R (prN R) (fK R (fK R (fK R (fZ fN))))) (Wk.eq R R R R))))
   refine thenN ?_
   refine LH.seq ?_
   obtain ⟨r5, hr5, h⟩ := bindS h
   refine LH.seqT [(0, .lst 6 (List.map GBag.lv p0)), (3, .sptr [.I p1.Stamp.Time, .I p1.Stamp.Source, .I p1.Stamp.Seq, .I p1.Kind, .I p1.Bag, .I p1.Seal, .I p1.From, .I p1.To, .L p1.Candidates]), (6, .I r1.1), (9, .I r5)] [] R ?_ ?_
   ·refine sMl R ?_
    refine sN (oCP (args := [.lst 2 (List.map q0q.lv v4)]) R isF67 R (sbR sbN) (q230q (fnA hv4 (fnC ⟨isF62, fun _ h => q226q h⟩ (fnC ⟨isF64, fun _ h => q227q h⟩ fnN)) (q231q hr3)) hr5) R ?_)
    refine sAi R ?_
    exact zS
   refine LH.seqT [(0, .lst 6 (List.map GBag.lv p0)), (3, .sptr [.I p1.Stamp.Time, .I p1.Stamp.Source, .I p1.Stamp.Seq, .I p1.Kind, .I p1.Bag, .I p1.Seal, .I p1.From, .I p1.To, .L p1.Candidates]), (6, .I r1.1), (9, .I r5), (43, .bool (r5 != 0))] [] R ?_ ?_
   ·refine sMi R ?_
    refine sN (oNe R R ?_)
    exact zS
   refine LH.cond (t := (r5 != 0)) R (fun hc6 => ?_) (fun hc6 => ?_)
   ·replace h := iteT h hc6
    refine LH.seqT [(4, .nil), (5, .I r5)] [] R ?_ ?_
    ·refine sMi R ?_
     refine sAn R ?_
     refine sAi R ?_
     exact zS
    refine LH.ret ?_
    refine thenR ?_
    obtain rfl := oI h
    exact retE (aT Tryz.results34) (lrT R (lrT R (lr0 ⟨memN mN, R, prK R, (Sub.tup (sbL (sbR sbN)))⟩)))
   replace h := iteF h hc6
   refine LH.skip ?_
   refine thenN ?_
   obtain ⟨r7, hr7, h⟩ := bindS h
   refine LH.seqT [(3, .sptr [.I p1.Stamp.Time, .I p1.Stamp.Source, .I p1.Stamp.Seq, .I p1.Kind, .I p1.Bag, .I p1.Seal, .I p1.From, .I p1.To, .L p1.Candidates]), (6, .I r1.1), (10, .arr 8 (List.length r7))] [(8, .nest 43 6 [(3, 3, 1)] (List.map GBag.lv r7))] R ?_ ?_
   ·refine sMl R ?_
    refine sN (oCM (args := [.lst 6 (List.map GBag.lv p0)]) (ml := []) (ml' := [(8, .nest 43 6 [(3, 3, 1)] (List.map GBag.lv r7))]) R isF68 R (sbR sbN) (q199q hr7) mN (newF R newN) R ?_)
    refine sAa R ?_
    exact zS
   refine LH.seq ?_
   refine LH.seqT [(3, .sptr [.I p1.Stamp.Time, .I p1.Stamp.Source, .I p1.Stamp.Seq, .I p1.Kind, .I p1.Bag, .I p1.Seal, .I p1.From, .I p1.To, .L p1.Candidates]), (6, .I r1.1), (10, .arr 8 (List.length r7)), (48, .I p1.Kind)] [(8, .nest 43 6 [(3, 3, 1)] (List.map GBag.lv r7))] R ?_ ?_
   ·refine sN (oFaS tf52_1 tk3 ts3 R R R ?_)
    refine sN (oLd R tk3 ta3 ?_)
    exact zS
   refine LH.block ?_
   refine LH.seqT [(3, .sptr [.I p1.Stamp.Time, .I p1.Stamp.Source, .I p1.Stamp.Seq, .I p1.Kind, .I p1.Bag, .I p1.Seal, .I p1.From, .I p1.To, .L p1.Candidates]), (6, .I r1.1), (10, .arr 8 (List.length r7)), (48, .I p1.Kind), (49, .bool (p1.Kind == 1))] [(8, .nest 43 6 [(3, 3, 1)] (List.map GBag.lv r7))] R ?_ ?_
   ·refine sN (oEq R R ?_)
    refine sAb R ?_
    exact zS
   refine LH.cond (t := (p1.Kind == 1)) R (fun hc8 => ?_) (fun hc8 => ?_)
   ·replace h := iteT h hc8
    obtain ⟨v9, hv9, h⟩ := bindS h
    refine LH.seqJM mixed [] [0, 0, 0, 0, 0, 0, 0, 0, 0, 0, 0, 2, 100111] [(6, .I r1.1), (10, .arr 8 (List.length r7)), (11, .sptr [.I p1.Bag, .I p1.From, .bool false, .L [p1.Seal], .L v9, .nil])] [(8, .nest 43 6 [(3, 3, 1)] (List.map GBag.lv r7))] R R (by kernel_rfl) ?_ ?_
    ·refine mN0 (oFaS tf52_2 tk3 ts3 R R R ⟨R, ?_⟩)
     refine mN0 (oLd R tk3 ta3 ⟨R, ?_⟩)
     refine mN0 (oFaS tf52_4 tk3 ts3 R R R ⟨R, ?_⟩)
     refine mN0 (oLd R tk3 ta3 ⟨R, ?_⟩)
     refine mN0 (oFaS tf52_3 tk3 ts3 R R R ⟨R, ?_⟩)
     refine mN0 (oLd R tk3 ta3 ⟨R, ?_⟩)
     refine mN0 (oBS (f := LV.I) (ys := [p1.Seal]) te22 tr3 ts3 R R R okI ⟨R, ?_⟩)
     refine mN0 (oFaS tf52_6 tk22 ts22 R R R ⟨R, ?_⟩)
     refine mN0 (oLd R tk22 ta22 ⟨R, ?_⟩)
     refine mN0 (oCP (args := [.L p1.Candidates]) R isF58 R (sbR sbN) (LCall.frz (clone_ok (g := LV.I) cloneW58 R 160 hv9) R) R ⟨R, ?_⟩)
     refine mN0 (oBd (vs := [(0, .I p1.Bag), (1, .I p1.From), (3, .L [p1.Seal]), (4, .L v9)]) tu43 tz43 R (lf tf43_0 ts3 tk3 R R R (lf tf43_1 ts3 tk3 R R R (lf tf43_3 ts22 tk22 R R R (lf tf43_4 ts22 tk22 R R R lf0)))) ⟨R, ?_⟩)
     refine mN2 (oAl (id := 111) R tz43 R R ?_)
     refine mS R R R (fun _ b _ d => oSt R R R tk43 ts43 b R R d) ?_
     exact m0 ((Wk.trans (Wk.eq (el := [(6, .I r1.1), (10, .arr 8 (List.length r7)), (11, .ptr 111 0)]) (ml := [(8, .nest 43 6 [(3, 3, 1)] (List.map GBag.lv r7)), (111, .box [.I p1.Bag, .I p1.From, .bool false, .L [p1.Seal], .L v9, .nil])]) R R R R) (Wk.trans (Wk.frzB 111 [.I p1.Bag, .I p1.From, .bool false, .L [p1.Seal], .L v9, .nil] R R R (prN R)) (Wk.eq R R R R))))
    obtain ⟨v10, hv10, h⟩ := bindS h
    refine LH.loneT [(10, .lst 6 (List.map GBag.lv v10))] [] R ?_ ?_
    ·refine sMa R ?_
     refine sMi R ?_
     refine sN (oLdA R tk43 ta43 ts43 R R ?_)
     refine sX (ok_bsAn (f := GBag.lv) (ys := [(GBag.mk p1.Bag p1.From false [p1.Seal] v9 [])]) (id := 165) te27 tr43 ts43 R R R (okC R R R okN) (sbS (Sub.agg (sbR (sbR (sbR (sbR (sbR (sbL sbN))))))) sbN) GBag.ok R R) ?_
     refine SOps.wk (Wk.eq (el := [(62, .arr 8 (List.length r7)), (63, .I r1.1), (65, .arr 165 (List.length ([(GBag.mk p1.Bag p1.From false [p1.Seal] v9 [])])))]) (ml := [(8, .nest 43 6 [(3, 3, 1)] (List.map GBag.lv r7)), (165, .arr 43 6 (List.map GBag.lv ([(GBag.mk p1.Bag p1.From false [p1.Seal] v9 [])])))]) R R R R) ?_
     refine SOps.wk (Wk.trans (Wk.unnest (f := GBag.lv) 8 43 6 [(3, 3, 1)] r7 R GBag.ok) (Wk.eq (el := [(62, .arr 8 (List.length r7)), (63, .I r1.1), (65, .arr 165 (List.length ([(GBag.mk p1.Bag p1.From false [p1.Seal] v9 [])])))]) (ml := [(8, .arr 43 6 (List.map GBag.lv r7)), (165, .arr 43 6 (List.map GBag.lv ([(GBag.mk p1.Bag p1.From false [p1.Seal] v9 [])])))]) R R R R)) ?_
     refine sTake (ok_insert (g := GBag.lv) (xs := r7) (z0 := (GBag.mk p1.Bag p1.From false [p1.Seal] v9 [])) isF69 insW69 R R R R R (by decide) (prN R) (HB.of R) hv10) ?_
     refine sAa R ?_
     exact s0 ((Wk.trans (Wk.eq (el := [(10, .arr 8 (List.length v10))]) (ml := [(8, .arr 43 6 (List.map GBag.lv v10))]) R R R R) (Wk.trans (Wk.frzL (f := GBag.lv) (el' := [(10, .lst 6 (List.map GBag.lv v10))]) 8 43 6 v10 R R (prN R) (fZ fN)) (Wk.eq R R R R))))
    refine blockN ?_
    refine thenN ?_
    refine LH.seqT [(4, .lst 6 (List.map GBag.lv v10)), (5, .I 0)] [] R ?_ ?_
    ·refine sMl R ?_
     refine sAl R ?_
     refine sAi R ?_
     exact zS
    refine LH.ret ?_
    obtain rfl := oI h
    exact retE (aT Tryz.results34) (lrT R (lrT R (lr0 ⟨memN mN, R, prK R, (Sub.tup (sbR (sbR sbN)))⟩)))
   replace h := iteF h hc8
   refine LH.seqT [(3, .sptr [.I p1.Stamp.Time, .I p1.Stamp.Source, .I p1.Stamp.Seq, .I p1.Kind, .I p1.Bag, .I p1.Seal, .I p1.From, .I p1.To, .L p1.Candidates]), (6, .I r1.1), (10, .arr 8 (List.length r7)), (48, .I p1.Kind), (67, .bool (p1.Kind == 2))] [(8, .nest 43 6 [(3, 3, 1)] (List.map GBag.lv r7))] R ?_ ?_
   ·refine sN (oEq R R ?_)
    refine sAb R ?_
    exact zS
   refine LH.cond (t := (p1.Kind == 2)) R (fun hc11 => ?_) (fun hc11 => ?_)
   ·replace h := iteT h hc11
    obtain ⟨x12, hx12, h⟩ := bindS h
    refine LH.loneT [(10, .lst 6 (List.map GBag.lv (r7.set (r1.1).toNat (GBag.mk x12.Bag p1.To x12.Open x12.Seals x12.Packed x12.Found))))] [] R ?_ ?_
    ·refine sMa R ?_
     refine sMi R ?_
     refine sN (oFaS tf52_5 tk3 ts3 R R R ?_)
     refine sN (oLd R tk3 ta3 ?_)
     refine sX ((ok_ixFo (f := GBag.lv) (xs := r7) (cs := [.I x12.Bag, .I x12.Holder, .bool x12.Open, .L x12.Seals, .L x12.Packed, .L x12.Found]) te27 tk43 ts43 R R R R hx12 R).ok) ?_
     refine sX ((ok_faN tf43_1 tk3 ts3 R R (by simp) (focAt hx12)).ok) ?_
     refine sX_ ((ok_s1F (ls := List.map GBag.lv r7) (cs := [.I x12.Bag, .I x12.Holder, .bool x12.Open, .L x12.Seals, .L x12.Packed, .L x12.Found]) (cs' := [.I x12.Bag, .I p1.To, .bool x12.Open, .L x12.Seals, .L x12.Packed, .L x12.Found]) R R (by simp) (focAt hx12) R R R R R tk3 ts3 R).ok) ?_
     exact s0 ((Wk.trans (Wk.to (el := [(10, .arr 8 (List.length (r7.set (r1.1).toNat (GBag.mk x12.Bag p1.To x12.Open x12.Seals x12.Packed x12.Found))))]) (ml := [(8, .nest 43 6 [(3, 3, 1)] (List.map GBag.lv (r7.set (r1.1).toNat (GBag.mk x12.Bag p1.To x12.Open x12.Seals x12.Packed x12.Found))))]) (eC (congrArg (LV.arr 8) (by simp)) eN) (mC (unfN R R) mN) R (prK R)) (Wk.trans (Wk.frzNL (f := GBag.lv) (el' := [(10, .lst 6 (List.map GBag.lv (r7.set (r1.1).toNat (GBag.mk x12.Bag p1.To x12.Open x12.Seals x12.Packed x12.Found))))]) 8 43 6 [(3, 3, 1)] (r7.set (r1.1).toNat (GBag.mk x12.Bag p1.To x12.Open x12.Seals x12.Packed x12.Found)) R GBag.ok R (prN R) (fZ fN)) (Wk.eq R R R R))))
    refine blockN ?_
    refine thenN ?_
    refine LH.seqT [(4, .lst 6 (List.map GBag.lv (r7.set (r1.1).toNat (GBag.mk x12.Bag p1.To x12.Open x12.Seals x12.Packed x12.Found)))), (5, .I 0)] [] R ?_ ?_
    ·refine sMl R ?_
     refine sAl R ?_
     refine sAi R ?_
     exact zS
    refine LH.ret ?_
    obtain rfl := oI h
    exact retE (aT Tryz.results34) (lrT R (lrT R (lr0 ⟨memN mN, R, prK R, (Sub.tup (sbR (sbR sbN)))⟩)))
   replace h := iteF h hc11
   refine LH.seqT [(3, .sptr [.I p1.Stamp.Time, .I p1.Stamp.Source, .I p1.Stamp.Seq, .I p1.Kind, .I p1.Bag, .I p1.Seal, .I p1.From, .I p1.To, .L p1.Candidates]), (6, .I r1.1), (10, .arr 8 (List.length r7)), (48, .I p1.Kind), (75, .bool (p1.Kind == 3))] [(8, .nest 43 6 [(3, 3, 1)] (List.map GBag.lv r7))] R ?_ ?_
   ·refine sN (oEq R R ?_)
    refine sAb R ?_
    exact zS
   refine LH.cond (t := (p1.Kind == 3)) R (fun hc13 => ?_) (fun hc13 => ?_)
   ·replace h := iteT h hc13
    obtain ⟨x14, hx14, h⟩ := bindS h
    refine LH.seqT [(3, .sptr [.I p1.Stamp.Time, .I p1.Stamp.Source, .I p1.Stamp.Seq, .I p1.Kind, .I p1.Bag, .I p1.Seal, .I p1.From, .I p1.To, .L p1.Candidates]), (6, .I r1.1), (10, .arr 8 (List.length (r7.set (r1.1).toNat (GBag.mk x14.Bag x14.Holder true x14.Seals x14.Packed x14.Found))))] [(8, .nest 43 6 [(3, 3, 1)] (List.map GBag.lv (r7.set (r1.1).toNat (GBag.mk x14.Bag x14.Holder true x14.Seals x14.Packed x14.Found))))] R ?_ ?_
    ·refine sMa R ?_
     refine sMi R ?_
     refine sX ((ok_ixFo (f := GBag.lv) (xs := r7) (cs := [.I x14.Bag, .I x14.Holder, .bool x14.Open, .L x14.Seals, .L x14.Packed, .L x14.Found]) te27 tk43 ts43 R R R R hx14 R).ok) ?_
     refine sX ((ok_faN tf43_2 tk4 ts4 R R (by simp) (focAt hx14)).ok) ?_
     refine sX_ ((ok_s1F (ls := List.map GBag.lv r7) (cs := [.I x14.Bag, .I x14.Holder, .bool x14.Open, .L x14.Seals, .L x14.Packed, .L x14.Found]) (cs' := [.I x14.Bag, .I x14.Holder, .bool true, .L x14.Seals, .L x14.Packed, .L x14.Found]) R R (by simp) (focAt hx14) R R R R R tk4 ts4 R).ok) ?_
     exact s0 (Wk.to (eC R (eC R (eC (congrArg (LV.arr 8) (by simp)) eN))) (mC (unfN R R) mN) R (prK R))
    obtain ⟨v15, hv15, h⟩ := bindS h
    obtain ⟨x16, hx16, h⟩ := bindS h
    refine LH.loneT [(10, .lst 6 (List.map GBag.lv ((r7.set (r1.1).toNat (GBag.mk x14.Bag x14.Holder true x14.Seals x14.Packed x14.Found)).set (r1.1).toNat (GBag.mk x16.Bag x16.Holder x16.Open x16.Seals x16.Packed v15))))] [] R ?_ ?_
    ·refine sMa R ?_
     refine sMi R ?_
     refine sN (oFaS tf52_6 tk22 ts22 R R R ?_)
     refine sN (oLd R tk22 ta22 ?_)
     refine sN (oCP (args := [.L p1.Candidates]) R isF58 R (sbR sbN) (LCall.frz (clone_ok (g := LV.I) cloneW58 R 185 hv15) R) R ?_)
     refine sX ((ok_ixFo (f := GBag.lv) (xs := (r7.set (r1.1).toNat (GBag.mk x14.Bag x14.Holder true x14.Seals x14.Packed x14.Found))) (cs := [.I x16.Bag, .I x16.Holder, .bool x16.Open, .L x16.Seals, .L x16.Packed, .L x16.Found]) te27 tk43 ts43 R R R R hx16 R).ok) ?_
     refine sX ((ok_faN tf43_5 tk22 ts22 R R (by simp) (focAt hx16)).ok) ?_
     refine sX_ ((ok_s1F (ls := List.map GBag.lv (r7.set (r1.1).toNat (GBag.mk x14.Bag x14.Holder true x14.Seals x14.Packed x14.Found))) (cs := [.I x16.Bag, .I x16.Holder, .bool x16.Open, .L x16.Seals, .L x16.Packed, .L x16.Found]) (cs' := [.I x16.Bag, .I x16.Holder, .bool x16.Open, .L x16.Seals, .L x16.Packed, .L v15]) R R (by simp) (focAt hx16) R R R R R tk22 ts22 R).ok) ?_
     exact s0 ((Wk.trans (Wk.to (el := [(10, .arr 8 (List.length ((r7.set (r1.1).toNat (GBag.mk x14.Bag x14.Holder true x14.Seals x14.Packed x14.Found)).set (r1.1).toNat (GBag.mk x16.Bag x16.Holder x16.Open x16.Seals x16.Packed v15))))]) (ml := [(8, .nest 43 6 [(3, 3, 1)] (List.map GBag.lv ((r7.set (r1.1).toNat (GBag.mk x14.Bag x14.Holder true x14.Seals x14.Packed x14.Found)).set (r1.1).toNat (GBag.mk x16.Bag x16.Holder x16.Open x16.Seals x16.Packed v15))))]) (eC (congrArg (LV.arr 8) (by simp)) eN) (mC (unfN R R) mN) R (prK R)) (Wk.trans (Wk.frzNL (f := GBag.lv) (el' := [(10, .lst 6 (List.map GBag.lv ((r7.set (r1.1).toNat (GBag.mk x14.Bag x14.Holder true x14.Seals x14.Packed x14.Found)).set (r1.1).toNat (GBag.mk x16.Bag x16.Holder x16.Open x16.Seals x16.Packed v15))))]) 8 43 6 [(3, 3, 1)] ((r7.set (r1.1).toNat (GBag.mk x14.Bag x14.Holder true x14.Seals x14.Packed x14.Found)).set (r1.1).toNat (GBag.mk x16.Bag x16.Holder x16.Open x16.Seals x16.Packed v15)) R GBag.ok R (prN R) (fZ fN)) (Wk.eq R R R R))))
    refine blockN ?_
    refine thenN ?_
    refine LH.seqT [(4, .lst 6 (List.map GBag.lv ((r7.set (r1.1).toNat (GBag.mk x14.Bag x14.Holder true x14.Seals x14.Packed x14.Found)).set (r1.1).toNat (GBag.mk x16.Bag x16.Holder x16.Open x16.Seals x16.Packed v15)))), (5, .I 0)] [] R ?_ ?_
    ·refine sMl R ?_
     refine sAl R ?_
     refine sAi R ?_
     exact zS
    refine LH.ret ?_
    obtain rfl := oI h
    exact retE (aT Tryz.results34) (lrT R (lrT R (lr0 ⟨memN mN, R, prK R, (Sub.tup (sbR (sbR sbN)))⟩)))
   replace h := iteF h hc13
   refine LH.seqT [(3, .sptr [.I p1.Stamp.Time, .I p1.Stamp.Source, .I p1.Stamp.Seq, .I p1.Kind, .I p1.Bag, .I p1.Seal, .I p1.From, .I p1.To, .L p1.Candidates]), (6, .I r1.1), (10, .arr 8 (List.length r7)), (88, .bool (p1.Kind == 4))] [(8, .nest 43 6 [(3, 3, 1)] (List.map GBag.lv r7))] R ?_ ?_
   ·refine sN (oEq R R ?_)
    refine sAb R ?_
    exact zS
   refine LH.cond (t := (p1.Kind == 4)) R (fun hc17 => ?_) (fun hc17 => ?_)
   ·replace h := iteT h hc17
    obtain ⟨x18, hx18, h⟩ := bindS h
    obtain ⟨v19, hv19, h⟩ := bindS h
    refine LH.loneTM mixed [] [0, 0, 0, 0, 3, 3, 3, 0, 0, 0, 2, 3, 3, 3] [(10, .lst 6 (List.map GBag.lv (r7.set (r1.1).toNat (GBag.mk x18.Bag x18.Holder x18.Open v19 x18.Packed x18.Found))))] [] R R (by kernel_rfl) ?_ ?_
    ·refine mMa R ?_
     refine mMi R ?_
     refine mMa R ?_
     refine mMi R ?_
     refine mX (ok_ixFo (f := GBag.lv) (xs := r7) (cs := [.I x18.Bag, .I x18.Holder, .bool x18.Open, .L x18.Seals, .L x18.Packed, .L x18.Found]) te27 tk43 ts43 R R R R hx18 R) ?_
     refine mX (ok_faN tf43_3 tk22 ts22 R R (by simp) (focAt hx18)) ?_
     refine mX (ok_takeF (g := LV.I) (ys := x18.Seals) (ls := List.map GBag.lv r7) (cs := [.I x18.Bag, .I x18.Holder, .bool x18.Open, .L x18.Seals, .L x18.Packed, .L x18.Found]) (id2 := 196) (cs' := [.I x18.Bag, .I x18.Holder, .bool x18.Open, .und, .L x18.Packed, .L x18.Found]) R R (by simp) (focAt hx18) R R R tk22 ta22 R) ?_
     refine mN0 (oFaS tf52_3 tk3 ts3 R R R ⟨R, ?_⟩)
     refine mN0 (oLd R tk3 ta3 ⟨R, ?_⟩)
     refine mN0 (oBS (f := LV.I) (ys := [p1.Seal]) te22 tr3 ts3 R R R okI ⟨R, ?_⟩)
     refine mN2 (oAp (f := LV.I) te22 tr3 ts3 R R (prN R) R hv19 ?_)
     refine mX (ok_ixG (f := GBag.lv) (xs := r7) te27 tk43 ts43 R R R R hx18) ?_
     refine mX (ok_faN tf43_3 tk22 ts22 R R (by simp) (focAt hx18)) ?_
     refine mX_ (ok_putF (g := LV.I) (ys := v19) (ls := List.map GBag.lv r7) (cs := [.I x18.Bag, .I x18.Holder, .bool x18.Open, .und, .L x18.Packed, .L x18.Found]) (cs' := [.I x18.Bag, .I x18.Holder, .bool x18.Open, .L v19, .L x18.Packed, .L x18.Found]) R R (by simp) (focAt hx18) R R R R R (prN R) tk22 ts22 R) ?_
     exact m0 ((Wk.trans (Wk.to (el := [(10, .arr 8 (List.length (r7.set (r1.1).toNat (GBag.mk x18.Bag x18.Holder x18.Open v19 x18.Packed x18.Found))))]) (ml := [(8, .nest 43 6 [(3, 3, 1)] (List.map GBag.lv (r7.set (r1.1).toNat (GBag.mk x18.Bag x18.Holder x18.Open v19 x18.Packed x18.Found))))]) (eC (congrArg (LV.arr 8) (by simp)) eN) (mC (unfN R R) mN) R (prK R)) (Wk.trans (Wk.frzNL (f := GBag.lv) (el' := [(10, .lst 6 (List.map GBag.lv (r7.set (r1.1).toNat (GBag.mk x18.Bag x18.Holder x18.Open v19 x18.Packed x18.Found))))]) 8 43 6 [(3, 3, 1)] (r7.set (r1.1).toNat (GBag.mk x18.Bag x18.Holder x18.Open v19 x18.Packed x18.Found)) R GBag.ok R (prN R) (fZ fN)) (Wk.eq R R R R))))
    refine blockN ?_
    refine thenN ?_
    refine LH.seqT [(4, .lst 6 (List.map GBag.lv (r7.set (r1.1).toNat (GBag.mk x18.Bag x18.Holder x18.Open v19 x18.Packed x18.Found)))), (5, .I 0)] [] R ?_ ?_
    ·refine sMl R ?_
     refine sAl R ?_
     refine sAi R ?_
     exact zS
    refine LH.ret ?_
    obtain rfl := oI h
    exact retE (aT Tryz.results34) (lrT R (lrT R (lr0 ⟨memN mN, R, prK R, (Sub.tup (sbR (sbR sbN)))⟩)))
   replace h := iteF h hc17
   refine LH.skip ?_
   refine blockN ?_
   refine thenN ?_
   refine LH.wk ((Wk.trans (Wk.eq (el := [(10, .arr 8 (List.length r7))]) (ml := [(8, .nest 43 6 [(3, 3, 1)] (List.map GBag.lv r7))]) R R R R) (Wk.trans (Wk.frzNL (f := GBag.lv) (el' := [(10, .lst 6 (List.map GBag.lv r7))]) 8 43 6 [(3, 3, 1)] r7 R GBag.ok R (prN R) (fZ fN)) (Wk.eq (el := [(10, .lst 6 (List.map GBag.lv r7))]) (ml := []) R R R R)))) ?_
   refine LH.seqT [(4, .lst 6 (List.map GBag.lv r7)), (5, .I 0)] [] R ?_ ?_
   ·refine sMl R ?_
    refine sAl R ?_
    refine sAi R ?_
    exact zS
   refine LH.ret ?_
   obtain rfl := oI h
   exact retE (aT Tryz.results34) (lrT R (lrT R (lr0 ⟨memN mN, R, prK R, (Sub.tup (sbR (sbR sbN)))⟩)))
  replace h := iteF h hc2
  obtain ⟨r20, hr20, h⟩ := bindS h
  obtain ⟨v21, hv21, h⟩ := bindS h
  refine LH.loneT [(0, .lst 6 (List.map GBag.lv p0)), (3, .sptr [.I p1.Stamp.Time, .I p1.Stamp.Source, .I p1.Stamp.Seq, .I p1.Kind, .I p1.Bag, .I p1.Seal, .I p1.From, .I p1.To, .L p1.Candidates]), (6, .I r1.1), (8, .lst 2 (List.map q0q.lv v21))] [] R ?_ ?_
  ·refine sMa R ?_
   refine sMl R ?_
   refine sN (oLdA R tk52 ta52 ts52 R R ?_)
   refine sMi R ?_
   refine sMb R ?_
   refine sN (oCP (args := [.lst 6 (List.map GBag.lv p0), .agg [.I p1.Stamp.Time, .I p1.Stamp.Source, .I p1.Stamp.Seq, .I p1.Kind, .I p1.Bag, .I p1.Seal, .I p1.From, .I p1.To, .L p1.Candidates], .I r1.1, .bool r1.2]) R isF66 R (sbR (sbR (sbR (sbR sbN)))) (q234q hr20) R ?_)
   refine sN (oAp (f := q0q.lv) te89 tr88 ts88 R R (prN R) R hv21 ?_)
   refine sAa R ?_
   exact s0 ((Wk.trans (Wk.eq (el := [(0, .lst 6 (List.map GBag.lv p0)), (3, .sptr [.I p1.Stamp.Time, .I p1.Stamp.Source, .I p1.Stamp.Seq, .I p1.Kind, .I p1.Bag, .I p1.Seal, .I p1.From, .I p1.To, .L p1.Candidates]), (6, .I r1.1), (8, .arr 123 (List.length v21))]) (ml := [(123, .arr 88 2 (List.map q0q.lv v21))]) R R R R) (Wk.trans (Wk.frzL (f := q0q.lv) (el' := [(0, .lst 6 (List.map GBag.lv p0)), (3, .sptr [.I p1.Stamp.Time, .I p1.Stamp.Source, .I p1.Stamp.Seq, .I p1.Kind, .I p1.Bag, .I p1.Seal, .I p1.From, .I p1.To, .L p1.Candidates]), (6, .I r1.1), (8, .lst 2 (List.map q0q.lv v21))]) 123 88 2 v21 R R (prN R) (fK R (fK R (fK R (fZ fN))))) (Wk.eq R R R R))))
  refine thenN ?_
  refine LH.seq ?_
  obtain ⟨r22, hr22, h⟩ := bindS h
  refine LH.seqT [(0, .lst 6 (List.map GBag.lv p0)), (3, .sptr [.I p1.Stamp.Time, .I p1.Stamp.Source, .I p1.Stamp.Seq, .I p1.Kind, .I p1.Bag, .I p1.Seal, .I p1.From, .I p1.To, .L p1.Candidates]), (6, .I r1.1), (9, .I r22)] [] R ?_ ?_
  ·refine sMl R ?_
   refine sN (oCP (args := [.lst 2 (List.map q0q.lv v21)]) R isF67 R (sbR sbN) (q230q (fnA hv21 (fnC ⟨isF62, fun _ h => q226q h⟩ (fnC ⟨isF64, fun _ h => q227q h⟩ fnN)) (q233q hr20)) hr22) R ?_)
   refine sAi R ?_
   exact zS
  refine LH.seqT [(0, .lst 6 (List.map GBag.lv p0)), (3, .sptr [.I p1.Stamp.Time, .I p1.Stamp.Source, .I p1.Stamp.Seq, .I p1.Kind, .I p1.Bag, .I p1.Seal, .I p1.From, .I p1.To, .L p1.Candidates]), (6, .I r1.1), (9, .I r22), (43, .bool (r22 != 0))] [] R ?_ ?_
  ·refine sMi R ?_
   refine sN (oNe R R ?_)
   exact zS
  refine LH.cond (t := (r22 != 0)) R (fun hc23 => ?_) (fun hc23 => ?_)
  ·replace h := iteT h hc23
   refine LH.seqT [(4, .nil), (5, .I r22)] [] R ?_ ?_
   ·refine sMi R ?_
    refine sAn R ?_
    refine sAi R ?_
    exact zS
   refine LH.ret ?_
   refine thenR ?_
   obtain rfl := oI h
   exact retE (aT Tryz.results34) (lrT R (lrT R (lr0 ⟨memN mN, R, prK R, (Sub.tup (sbL (sbR sbN)))⟩)))
  replace h := iteF h hc23
  refine LH.skip ?_
  refine thenN ?_
  obtain ⟨r24, hr24, h⟩ := bindS h
  refine LH.seqT [(3, .sptr [.I p1.Stamp.Time, .I p1.Stamp.Source, .I p1.Stamp.Seq, .I p1.Kind, .I p1.Bag, .I p1.Seal, .I p1.From, .I p1.To, .L p1.Candidates]), (6, .I r1.1), (10, .arr 8 (List.length r24))] [(8, .nest 43 6 [(3, 3, 1)] (List.map GBag.lv r24))] R ?_ ?_
  ·refine sMl R ?_
   refine sN (oCM (args := [.lst 6 (List.map GBag.lv p0)]) (ml := []) (ml' := [(8, .nest 43 6 [(3, 3, 1)] (List.map GBag.lv r24))]) R isF68 R (sbR sbN) (q199q hr24) mN (newF R newN) R ?_)
   refine sAa R ?_
   exact zS
  refine LH.seq ?_
  refine LH.seqT [(3, .sptr [.I p1.Stamp.Time, .I p1.Stamp.Source, .I p1.Stamp.Seq, .I p1.Kind, .I p1.Bag, .I p1.Seal, .I p1.From, .I p1.To, .L p1.Candidates]), (6, .I r1.1), (10, .arr 8 (List.length r24)), (48, .I p1.Kind)] [(8, .nest 43 6 [(3, 3, 1)] (List.map GBag.lv r24))] R ?_ ?_
  ·refine sN (oFaS tf52_1 tk3 ts3 R R R ?_)
   refine sN (oLd R tk3 ta3 ?_)
   exact zS
  refine LH.block ?_
  refine LH.seqT [(3, .sptr [.I p1.Stamp.Time, .I p1.Stamp.Source, .I p1.Stamp.Seq, .I p1.Kind, .I p1.Bag, .I p1.Seal, .I p1.From, .I p1.To, .L p1.Candidates]), (6, .I r1.1), (10, .arr 8 (List.length r24)), (48, .I p1.Kind), (49, .bool (p1.Kind == 1))] [(8, .nest 43 6 [(3, 3, 1)] (List.map GBag.lv r24))] R ?_ ?_
  ·refine sN (oEq R R ?_)
   refine sAb R ?_
   exact zS
  refine LH.cond (t := (p1.Kind == 1)) R (fun hc25 => ?_) (fun hc25 => ?_)
  ·replace h := iteT h hc25
   obtain ⟨v26, hv26, h⟩ := bindS h
   refine LH.seqJM mixed [] [0, 0, 0, 0, 0, 0, 0, 0, 0, 0, 0, 2, 100111] [(6, .I r1.1), (10, .arr 8 (List.length r24)), (11, .sptr [.I p1.Bag, .I p1.From, .bool false, .L [p1.Seal], .L v26, .nil])] [(8, .nest 43 6 [(3, 3, 1)] (List.map GBag.lv r24))] R R (by kernel_rfl) ?_ ?_
   ·refine mN0 (oFaS tf52_2 tk3 ts3 R R R ⟨R, ?_⟩)
    refine mN0 (oLd R tk3 ta3 ⟨R, ?_⟩)
    refine mN0 (oFaS tf52_4 tk3 ts3 R R R ⟨R, ?_⟩)
    refine mN0 (oLd R tk3 ta3 ⟨R, ?_⟩)
    refine mN0 (oFaS tf52_3 tk3 ts3 R R R ⟨R, ?_⟩)
    refine mN0 (oLd R tk3 ta3 ⟨R, ?_⟩)
    refine mN0 (oBS (f := LV.I) (ys := [p1.Seal]) te22 tr3 ts3 R R R okI ⟨R, ?_⟩)
    refine mN0 (oFaS tf52_6 tk22 ts22 R R R ⟨R, ?_⟩)
    refine mN0 (oLd R tk22 ta22 ⟨R, ?_⟩)
    refine mN0 (oCP (args := [.L p1.Candidates]) R isF58 R (sbR sbN) (LCall.frz (clone_ok (g := LV.I) cloneW58 R 160 hv26) R) R ⟨R, ?_⟩)
    refine mN0 (oBd (vs := [(0, .I p1.Bag), (1, .I p1.From), (3, .L [p1.Seal]), (4, .L v26)]) tu43 tz43 R (lf tf43_0 ts3 tk3 R R R (lf tf43_1 ts3 tk3 R R R (lf tf43_3 ts22 tk22 R R R (lf tf43_4 ts22 tk22 R R R lf0)))) ⟨R, ?_⟩)
    refine mN2 (oAl (id := 111) R tz43 R R ?_)
    refine mS R R R (fun _ b _ d => oSt R R R tk43 ts43 b R R d) ?_
    exact m0 ((Wk.trans (Wk.eq (el := [(6, .I r1.1), (10, .arr 8 (List.length r24)), (11, .ptr 111 0)]) (ml := [(8, .nest 43 6 [(3, 3, 1)] (List.map GBag.lv r24)), (111, .box [.I p1.Bag, .I p1.From, .bool false, .L [p1.Seal], .L v26, .nil])]) R R R R) (Wk.trans (Wk.frzB 111 [.I p1.Bag, .I p1.From, .bool false, .L [p1.Seal], .L v26, .nil] R R R (prN R)) (Wk.eq R R R R))))
   obtain ⟨v27, hv27, h⟩ := bindS h
   refine LH.loneT [(10, .lst 6 (List.map GBag.lv v27))] [] R ?_ ?_
   ·refine sMa R ?_
    refine sMi R ?_
    refine sN (oLdA R tk43 ta43 ts43 R R ?_)
    refine sX (ok_bsAn (f := GBag.lv) (ys := [(GBag.mk p1.Bag p1.From false [p1.Seal] v26 [])]) (id := 165) te27 tr43 ts43 R R R (okC R R R okN) (sbS (Sub.agg (sbR (sbR (sbR (sbR (sbR (sbL sbN))))))) sbN) GBag.ok R R) ?_
    refine SOps.wk (Wk.eq (el := [(62, .arr 8 (List.length r24)), (63, .I r1.1), (65, .arr 165 (List.length ([(GBag.mk p1.Bag p1.From false [p1.Seal] v26 [])])))]) (ml := [(8, .nest 43 6 [(3, 3, 1)] (List.map GBag.lv r24)), (165, .arr 43 6 (List.map GBag.lv ([(GBag.mk p1.Bag p1.From false [p1.Seal] v26 [])])))]) R R R R) ?_
    refine SOps.wk (Wk.trans (Wk.unnest (f := GBag.lv) 8 43 6 [(3, 3, 1)] r24 R GBag.ok) (Wk.eq (el := [(62, .arr 8 (List.length r24)), (63, .I r1.1), (65, .arr 165 (List.length ([(GBag.mk p1.Bag p1.From false [p1.Seal] v26 [])])))]) (ml := [(8, .arr 43 6 (List.map GBag.lv r24)), (165, .arr 43 6 (List.map GBag.lv ([(GBag.mk p1.Bag p1.From false [p1.Seal] v26 [])])))]) R R R R)) ?_
    refine sTake (ok_insert (g := GBag.lv) (xs := r24) (z0 := (GBag.mk p1.Bag p1.From false [p1.Seal] v26 [])) isF69 insW69 R R R R R (by decide) (prN R) (HB.of R) hv27) ?_
    refine sAa R ?_
    exact s0 ((Wk.trans (Wk.eq (el := [(10, .arr 8 (List.length v27))]) (ml := [(8, .arr 43 6 (List.map GBag.lv v27))]) R R R R) (Wk.trans (Wk.frzL (f := GBag.lv) (el' := [(10, .lst 6 (List.map GBag.lv v27))]) 8 43 6 v27 R R (prN R) (fZ fN)) (Wk.eq R R R R))))
   refine blockN ?_
   refine thenN ?_
   refine LH.seqT [(4, .lst 6 (List.map GBag.lv v27)), (5, .I 0)] [] R ?_ ?_
   ·refine sMl R ?_
    refine sAl R ?_
    refine sAi R ?_
    exact zS
   refine LH.ret ?_
   obtain rfl := oI h
   exact retE (aT Tryz.results34) (lrT R (lrT R (lr0 ⟨memN mN, R, prK R, (Sub.tup (sbR (sbR sbN)))⟩)))
  replace h := iteF h hc25
  refine LH.seqT [(3, .sptr [.I p1.Stamp.Time, .I p1.Stamp.Source, .I p1.Stamp.Seq, .I p1.Kind, .I p1.Bag, .I p1.Seal, .I p1.From, .I p1.To, .L p1.Candidates]), (6, .I r1.1), (10, .arr 8 (List.length r24)), (48, .I p1.Kind), (67, .bool (p1.Kind == 2))] [(8, .nest 43 6 [(3, 3, 1)] (List.map GBag.lv r24))] R ?_ ?_
  ·refine sN (oEq R R ?_)
   refine sAb R ?_
   exact zS
  refine LH.cond (t := (p1.Kind == 2)) R (fun hc28 => ?_) (fun hc28 => ?_)
  ·replace h := iteT h hc28
   obtain ⟨x29, hx29, h⟩ := bindS h
   refine LH.loneT [(10, .lst 6 (List.map GBag.lv (r24.set (r1.1).toNat (GBag.mk x29.Bag p1.To x29.Open x29.Seals x29.Packed x29.Found))))] [] R ?_ ?_
   ·refine sMa R ?_
    refine sMi R ?_
    refine sN (oFaS tf52_5 tk3 ts3 R R R ?_)
    refine sN (oLd R tk3 ta3 ?_)
    refine sX ((ok_ixFo (f := GBag.lv) (xs := r24) (cs := [.I x29.Bag, .I x29.Holder, .bool x29.Open, .L x29.Seals, .L x29.Packed, .L x29.Found]) te27 tk43 ts43 R R R R hx29 R).ok) ?_
    refine sX ((ok_faN tf43_1 tk3 ts3 R R (by simp) (focAt hx29)).ok) ?_
    refine sX_ ((ok_s1F (ls := List.map GBag.lv r24) (cs := [.I x29.Bag, .I x29.Holder, .bool x29.Open, .L x29.Seals, .L x29.Packed, .L x29.Found]) (cs' := [.I x29.Bag, .I p1.To, .bool x29.Open, .L x29.Seals, .L x29.Packed, .L x29.Found]) R R (by simp) (focAt hx29) R R R R R tk3 ts3 R).ok) ?_
    exact s0 ((Wk.trans (Wk.to (el := [(10, .arr 8 (List.length (r24.set (r1.1).toNat (GBag.mk x29.Bag p1.To x29.Open x29.Seals x29.Packed x29.Found))))]) (ml := [(8, .nest 43 6 [(3, 3, 1)] (List.map GBag.lv (r24.set (r1.1).toNat (GBag.mk x29.Bag p1.To x29.Open x29.Seals x29.Packed x29.Found))))]) (eC (congrArg (LV.arr 8) (by simp)) eN) (mC (unfN R R) mN) R (prK R)) (Wk.trans (Wk.frzNL (f := GBag.lv) (el' := [(10, .lst 6 (List.map GBag.lv (r24.set (r1.1).toNat (GBag.mk x29.Bag p1.To x29.Open x29.Seals x29.Packed x29.Found))))]) 8 43 6 [(3, 3, 1)] (r24.set (r1.1).toNat (GBag.mk x29.Bag p1.To x29.Open x29.Seals x29.Packed x29.Found)) R GBag.ok R (prN R) (fZ fN)) (Wk.eq R R R R))))
   refine blockN ?_
   refine thenN ?_
   refine LH.seqT [(4, .lst 6 (List.map GBag.lv (r24.set (r1.1).toNat (GBag.mk x29.Bag p1.To x29.Open x29.Seals x29.Packed x29.Found)))), (5, .I 0)] [] R ?_ ?_
   ·refine sMl R ?_
    refine sAl R ?_
    refine sAi R ?_
    exact zS
   refine LH.ret ?_
   obtain rfl := oI h
   exact retE (aT Tryz.results34) (lrT R (lrT R (lr0 ⟨memN mN, R, prK R, (Sub.tup (sbR (sbR sbN)))⟩)))
  replace h := iteF h hc28
  refine LH.seqT [(3, .sptr [.I p1.Stamp.Time, .I p1.Stamp.Source, .I p1.Stamp.Seq, .I p1.Kind, .I p1.Bag, .I p1.Seal, .I p1.From, .I p1.To, .L p1.Candidates]), (6, .I r1.1), (10, .arr 8 (List.length r24)), (48, .I p1.Kind), (75, .bool (p1.Kind == 3))] [(8, .nest 43 6 [(3, 3, 1)] (List.map GBag.lv r24))] R ?_ ?_
  ·refine sN (oEq R R ?_)
   refine sAb R ?_
   exact zS
  refine LH.cond (t := (p1.Kind == 3)) R (fun hc30 => ?_) (fun hc30 => ?_)
  ·replace h := iteT h hc30
   obtain ⟨x31, hx31, h⟩ := bindS h
   refine LH.seqT [(3, .sptr [.I p1.Stamp.Time, .I p1.Stamp.Source, .I p1.Stamp.Seq, .I p1.Kind, .I p1.Bag, .I p1.Seal, .I p1.From, .I p1.To, .L p1.Candidates]), (6, .I r1.1), (10, .arr 8 (List.length (r24.set (r1.1).toNat (GBag.mk x31.Bag x31.Holder true x31.Seals x31.Packed x31.Found))))] [(8, .nest 43 6 [(3, 3, 1)] (List.map GBag.lv (r24.set (r1.1).toNat (GBag.mk x31.Bag x31.Holder true x31.Seals x31.Packed x31.Found))))] R ?_ ?_
   ·refine sMa R ?_
    refine sMi R ?_
    refine sX ((ok_ixFo (f := GBag.lv) (xs := r24) (cs := [.I x31.Bag, .I x31.Holder, .bool x31.Open, .L x31.Seals, .L x31.Packed, .L x31.Found]) te27 tk43 ts43 R R R R hx31 R).ok) ?_
    refine sX ((ok_faN tf43_2 tk4 ts4 R R (by simp) (focAt hx31)).ok) ?_
    refine sX_ ((ok_s1F (ls := List.map GBag.lv r24) (cs := [.I x31.Bag, .I x31.Holder, .bool x31.Open, .L x31.Seals, .L x31.Packed, .L x31.Found]) (cs' := [.I x31.Bag, .I x31.Holder, .bool true, .L x31.Seals, .L x31.Packed, .L x31.Found]) R R (by simp) (focAt hx31) R R R R R tk4 ts4 R).ok) ?_
    exact s0 (Wk.to (eC R (eC R (eC (congrArg (LV.arr 8) (by simp)) eN))) (mC (unfN R R) mN) R (prK R))
   obtain ⟨v32, hv32, h⟩ := bindS h
   obtain ⟨x33, hx33, h⟩ := bindS h
   refine LH.loneT [(10, .lst 6 (List.map GBag.lv ((r24.set (r1.1).toNat (GBag.mk x31.Bag x31.Holder true x31.Seals x31.Packed x31.Found)).set (r1.1).toNat (GBag.mk x33.Bag x33.Holder x33.Open x33.Seals x33.Packed v32))))] [] R ?_ ?_
   ·refine sMa R ?_
    refine sMi R ?_
    refine sN (oFaS tf52_6 tk22 ts22 R R R ?_)
    refine sN (oLd R tk22 ta22 ?_)
    refine sN (oCP (args := [.L p1.Candidates]) R isF58 R (sbR sbN) (LCall.frz (clone_ok (g := LV.I) cloneW58 R 185 hv32) R) R ?_)
    refine sX ((ok_ixFo (f := GBag.lv) (xs := (r24.set (r1.1).toNat (GBag.mk x31.Bag x31.Holder true x31.Seals x31.Packed x31.Found))) (cs := [.I x33.Bag, .I x33.Holder, .bool x33.Open, .L x33.Seals, .L x33.Packed, .L x33.Found]) te27 tk43 ts43 R R R R hx33 R).ok) ?_
    refine sX ((ok_faN tf43_5 tk22 ts22 R R (by simp) (focAt hx33)).ok) ?_
    refine sX_ ((ok_s1F (ls := List.map GBag.lv (r24.set (r1.1).toNat (GBag.mk x31.Bag x31.Holder true x31.Seals x31.Packed x31.Found))) (cs := [.I x33.Bag, .I x33.Holder, .bool x33.Open, .L x33.Seals, .L x33.Packed, .L x33.Found]) (cs' := [.I x33.Bag, .I x33.Holder, .bool x33.Open, .L x33.Seals, .L x33.Packed, .L v32]) R R (by simp) (focAt hx33) R R R R R tk22 ts22 R).ok) ?_
    exact s0 ((Wk.trans (Wk.to (el := [(10, .arr 8 (List.length ((r24.set (r1.1).toNat (GBag.mk x31.Bag x31.Holder true x31.Seals x31.Packed x31.Found)).set (r1.1).toNat (GBag.mk x33.Bag x33.Holder x33.Open x33.Seals x33.Packed v32))))]) (ml := [(8, .nest 43 6 [(3, 3, 1)] (List.map GBag.lv ((r24.set (r1.1).toNat (GBag.mk x31.Bag x31.Holder true x31.Seals x31.Packed x31.Found)).set (r1.1).toNat (GBag.mk x33.Bag x33.Holder x33.Open x33.Seals x33.Packed v32))))]) (eC (congrArg (LV.arr 8) (by simp)) eN) (mC (unfN R R) mN) R (prK R)) (Wk.trans (Wk.frzNL (f := GBag.lv) (el' := [(10, .lst 6 (List.map GBag.lv ((r24.set (r1.1).toNat (GBag.mk x31.Bag x31.Holder true x31.Seals x31.Packed x31.Found)).set (r1.1).toNat (GBag.mk x33.Bag x33.Holder x33.Open x33.Seals x33.Packed v32))))]) 8 43 6 [(3, 3, 1)] ((r24.set (r1.1).toNat (GBag.mk x31.Bag x31.Holder true x31.Seals x31.Packed x31.Found)).set (r1.1).toNat (GBag.mk x33.Bag x33.Holder x33.Open x33.Seals x33.Packed v32)) R GBag.ok R (prN R) (fZ fN)) (Wk.eq R R R R))))
   refine blockN ?_
   refine thenN ?_
   refine LH.seqT [(4, .lst 6 (List.map GBag.lv ((r24.set (r1.1).toNat (GBag.mk x31.Bag x31.Holder true x31.Seals x31.Packed x31.Found)).set (r1.1).toNat (GBag.mk x33.Bag x33.Holder x33.Open x33.Seals x33.Packed v32)))), (5, .I 0)] [] R ?_ ?_
   ·refine sMl R ?_
    refine sAl R ?_
    refine sAi R ?_
    exact zS
   refine LH.ret ?_
   obtain rfl := oI h
   exact retE (aT Tryz.results34) (lrT R (lrT R (lr0 ⟨memN mN, R, prK R, (Sub.tup (sbR (sbR sbN)))⟩)))
  replace h := iteF h hc30
  refine LH.seqT [(3, .sptr [.I p1.Stamp.Time, .I p1.Stamp.Source, .I p1.Stamp.Seq, .I p1.Kind, .I p1.Bag, .I p1.Seal, .I p1.From, .I p1.To, .L p1.Candidates]), (6, .I r1.1), (10, .arr 8 (List.length r24)), (88, .bool (p1.Kind == 4))] [(8, .nest 43 6 [(3, 3, 1)] (List.map GBag.lv r24))] R ?_ ?_
  ·refine sN (oEq R R ?_)
   refine sAb R ?_
   exact zS
  refine LH.cond (t := (p1.Kind == 4)) R (fun hc34 => ?_) (fun hc34 => ?_)
  ·replace h := iteT h hc34
   obtain ⟨x35, hx35, h⟩ := bindS h
   obtain ⟨v36, hv36, h⟩ := bindS h
   refine LH.loneTM mixed [] [0, 0, 0, 0, 3, 3, 3, 0, 0, 0, 2, 3, 3, 3] [(10, .lst 6 (List.map GBag.lv (r24.set (r1.1).toNat (GBag.mk x35.Bag x35.Holder x35.Open v36 x35.Packed x35.Found))))] [] R R (by kernel_rfl) ?_ ?_
   ·refine mMa R ?_
    refine mMi R ?_
    refine mMa R ?_
    refine mMi R ?_
    refine mX (ok_ixFo (f := GBag.lv) (xs := r24) (cs := [.I x35.Bag, .I x35.Holder, .bool x35.Open, .L x35.Seals, .L x35.Packed, .L x35.Found]) te27 tk43 ts43 R R R R hx35 R) ?_
    refine mX (ok_faN tf43_3 tk22 ts22 R R (by simp) (focAt hx35)) ?_
    refine mX (ok_takeF (g := LV.I) (ys := x35.Seals) (ls := List.map GBag.lv r24) (cs := [.I x35.Bag, .I x35.Holder, .bool x35.Open, .L x35.Seals, .L x35.Packed, .L x35.Found]) (id2 := 196) (cs' := [.I x35.Bag, .I x35.Holder, .bool x35.Open, .und, .L x35.Packed, .L x35.Found]) R R (by simp) (focAt hx35) R R R tk22 ta22 R) ?_
    refine mN0 (oFaS tf52_3 tk3 ts3 R R R ⟨R, ?_⟩)
    refine mN0 (oLd R tk3 ta3 ⟨R, ?_⟩)
    refine mN0 (oBS (f := LV.I) (ys := [p1.Seal]) te22 tr3 ts3 R R R okI ⟨R, ?_⟩)
    refine mN2 (oAp (f := LV.I) te22 tr3 ts3 R R (prN R) R hv36 ?_)
    refine mX (ok_ixG (f := GBag.lv) (xs := r24) te27 tk43 ts43 R R R R hx35) ?_
    refine mX (ok_faN tf43_3 tk22 ts22 R R (by simp) (focAt hx35)) ?_
    refine mX_ (ok_putF (g := LV.I) (ys := v36) (ls := List.map GBag.lv r24) (cs := [.I x35.Bag, .I x35.Holder, .bool x35.Open, .und, .L x35.Packed, .L x35.Found]) (cs' := [.I x35.Bag, .I x35.Holder, .bool x35.Open, .L v36, .L x35.Packed, .L x35.Found]) R R (by simp) (focAt hx35) R R R R R (prN R) tk22 ts22 R) ?_
    exact m0 ((Wk.trans (Wk.to (el := [(10, .arr 8 (List.length (r24.set (r1.1).toNat (GBag.mk x35.Bag x35.Holder x35.Open v36 x35.Packed x35.Found))))]) (ml := [(8, .nest 43 6 [(3, 3, 1)] (List.map GBag.lv (r24.set (r1.1).toNat (GBag.mk x35.Bag x35.Holder x35.Open v36 x35.Packed x35.Found))))]) (eC (congrArg (LV.arr 8) (by simp)) eN) (mC (unfN R R) mN) R (prK R)) (Wk.trans (Wk.frzNL (f := GBag.lv) (el' := [(10, .lst 6 (List.map GBag.lv (r24.set (r1.1).toNat (GBag.mk x35.Bag x35.Holder x35.Open v36 x35.Packed x35.Found))))]) 8 43 6 [(3, 3, 1)] (r24.set (r1.1).toNat (GBag.mk x35.Bag x35.Holder x35.Open v36 x35.Packed x35.Found)) R GBag.ok R (prN R) (fZ fN)) (Wk.eq R R R R))))
   refine blockN ?_
   refine thenN ?_
   refine LH.seqT [(4, .lst 6 (List.map GBag.lv (r24.set (r1.1).toNat (GBag.mk x35.Bag x35.Holder x35.Open v36 x35.Packed x35.Found)))), (5, .I 0)] [] R ?_ ?_
   ·refine sMl R ?_
    refine sAl R ?_
    refine sAi R ?_
    exact zS
   refine LH.ret ?_
   obtain rfl := oI h
   exact retE (aT Tryz.results34) (lrT R (lrT R (lr0 ⟨memN mN, R, prK R, (Sub.tup (sbR (sbR sbN)))⟩)))
  replace h := iteF h hc34
  refine LH.skip ?_
  refine blockN ?_
  refine thenN ?_
  refine LH.wk ((Wk.trans (Wk.eq (el := [(10, .arr 8 (List.length r24))]) (ml := [(8, .nest 43 6 [(3, 3, 1)] (List.map GBag.lv r24))]) R R R R) (Wk.trans (Wk.frzNL (f := GBag.lv) (el' := [(10, .lst 6 (List.map GBag.lv r24))]) 8 43 6 [(3, 3, 1)] r24 R GBag.ok R (prN R) (fZ fN)) (Wk.eq (el := [(10, .lst 6 (List.map GBag.lv r24))]) (ml := []) R R R R)))) ?_
  refine LH.seqT [(4, .lst 6 (List.map GBag.lv r24)), (5, .I 0)] [] R ?_ ?_
  ·refine sMl R ?_
   refine sAl R ?_
   refine sAi R ?_
   exact zS
  refine LH.ret ?_
  obtain rfl := oI h
  exact retE (aT Tryz.results34) (lrT R (lrT R (lr0 ⟨memN mN, R, prK R, (Sub.tup (sbR (sbR sbN)))⟩)))

theorem q265q {F : Nat} {p0 : List Gq0} {p1 : Int} {r : List GBag × List Gq2 × Int} (h : q180q F p0 p1 = some r) : LCall Tryz.prog 9 [.lst 9 (List.map Gq0.lv p0), .I p1] (Mem.of []) (.tup [.lst 6 (List.map GBag.lv r.1), .lst 3 (List.map Gq2.lv r.2.1), .I r.2.2]) (Mem.of []) := by
  unfold q180q at h
  refine bodyT Tryz.func9 R (nT Tryz.ntmps9 R) (LH.wk (Wk.eq (el := [(0, .lst 9 (List.map Gq0.lv p0)), (1, .I p1)]) (ml := []) R R R R) (LH.seqT [(0, .lst 9 (List.map Gq0.lv p0)), (1, .I p1)] [] R (sAn R (sAn R (sAi R zS))) ?_))
  obtain ⟨r1, hr1, h⟩ := bindS h
  refine LH.seqT [(1, .I p1), (7, .lst 9 (List.map Gq0.lv r1.1)), (8, .I r1.2)] [] R (sMl R (sN (oCP (args := [.lst 9 (List.map Gq0.lv p0)]) R isF33 R (sbR sbN) (q243q hr1) R (sMt R (sN (oEx R R (sN (oEx R R (sAl R (sAi R zS)))))))))) (LH.seq (LH.seqT [(1, .I p1), (7, .lst 9 (List.map Gq0.lv r1.1)), (8, .I r1.2), (21, .bool (r1.2 != 0))] [] R (sMi R (sN (oNe R R zS))) (LH.cond (t := (r1.2 != 0)) R (fun hc2 => ?_) (fun hc2 => ?_))))
  ·replace h := iteT h hc2
   refine LH.seqT [(4, .nil), (5, .nil), (6, .I r1.2)] [] R (sMi R (sAn R (sAn R (sAi R zS)))) (LH.ret (thenR ?_))
   obtain rfl := oI h
   exact retE (aT Tryz.results9) (lrT R (lrT R (lrT R (lr0 ⟨memN mN, R, prK R, (Sub.tup (sbL (sbL (sbR sbN))))⟩))))
  replace h := iteF h hc2
  refine LH.skip (thenN (LH.seqT [(1, .I p1), (7, .lst 9 (List.map Gq0.lv r1.1)), (9, .nil)] [] R (sAn R zS) (LH.seqT [(1, .I p1), (7, .lst 9 (List.map Gq0.lv r1.1)), (9, .nil), (10, .nil)] [] R (sAn R zS) (LH.seq (LH.seqT [(1, .I p1), (9, .nil), (10, .nil), (23, .lst 9 (List.map Gq0.lv r1.1)), (24, .I (r1.1.length : Int)), (25, .I 0)] [] R (sMl R (sN (oLnL (f := Gq0.lv) te25 R (sMi R zS)))) (LH.block (LH.wk ((Wk.trans (Wk.eq (el := [(1, .I p1), (9, .nil), (10, .nil), (23, .lst 9 (List.map Gq0.lv r1.1)), (24, .I (r1.1.length : Int)), (25, .I 0)]) (ml := []) R R R R) (Wk.trans (Wk.eq (el := [(1, .I p1), (9, .nil), (10, .nil), (23, .lst 9 (List.map Gq0.lv r1.1)), (24, .I (r1.1.length : Int)), (25, .I 0)]) (ml := []) R R R R) (Wk.trans (Wk.ownL (el' := [(1, .I p1), (9, .nil), (10, .arr 153 (List.length ([] : List Gq2))), (23, .lst 9 (List.map Gq0.lv r1.1)), (24, .I (r1.1.length : Int)), (25, .I 0)]) 153 68 3 R R (wK (wK (wO (wK (wK (wK wN))))))) (Wk.to (el := [(1, .I p1), (9, .lst 6 (List.map GBag.lv ([] : List GBag))), (10, .arr 153 (List.length ([] : List Gq2))), (23, .lst 9 (List.map Gq0.lv r1.1)), (24, .I (r1.1.length : Int)), (25, .I 0)]) (ml := [(153, .arr 68 3 (List.map Gq2.lv ([] : List Gq2)))]) (eC R (eL R (eC R (eC R (eC R (eC R eN)))))) ⟨R, trivial⟩ R (prK R)))))) (LH.loop (fun n e m => ∃ (l3 : List GBag) (n4 : Int) (l5 : List Gq2), q86q F p1 r1 n l3 n4 l5 = some r ∧ e = Env.of [(1, .I p1), (9, .lst 6 (List.map GBag.lv l3)), (10, .arr 153 (List.length l5)), (23, .lst 9 (List.map Gq0.lv r1.1)), (24, .I (r1.1.length : Int)), (25, .I n4)] ∧ m = Mem.of [(153, .arr 68 3 (List.map Gq2.lv l5))]) F ⟨([] : List GBag), 0, ([] : List Gq2), h, R, R⟩ ?_))))))))
  clear h
  rintro n e m ⟨l3, n4, l5, h, rfl, rfl⟩
  rcases n with _ | n
  · cases (show Option.none = some _ from h)
  obtain ⟨rec1, hrec1⟩ : ∃ f, f = q86q F p1 r1 n := ⟨_, rfl⟩
  replace h : q135q F p1 r1 rec1 l3 n4 l5 = some r := hrec1 ▸ h
  unfold q135q at h
  refine LH.seqT [(1, .I p1), (9, .lst 6 (List.map GBag.lv l3)), (10, .arr 153 (List.length l5)), (23, .lst 9 (List.map Gq0.lv r1.1)), (24, .I (r1.1.length : Int)), (25, .I n4), (26, .bool (decide (n4 < (r1.1.length : Int))))] [(153, .arr 68 3 (List.map Gq2.lv l5))] R (sN (oLt R R zS)) (LH.seq (LH.cond (t := (decide (n4 < (r1.1.length : Int)))) R (fun hc6 => ?_) (fun hc6 => ?_)))
  ·replace h := iteT h hc6
   refine LH.skip (thenN (LH.wk (Wk.eq (el := [(1, .I p1), (9, .lst 6 (List.map GBag.lv l3)), (10, .arr 153 (List.length l5)), (23, .lst 9 (List.map Gq0.lv r1.1)), (24, .I (r1.1.length : Int)), (25, .I n4)]) (ml := [(153, .arr 68 3 (List.map Gq2.lv l5))]) R R R R) (LH.seq (LH.block ?_))))
   obtain ⟨x7, hx7, h⟩ := bindS h
   refine LH.seqT [(1, .I p1), (9, .lst 6 (List.map GBag.lv l3)), (10, .arr 153 (List.length l5)), (12, .sptr (Gq0.lv x7).cells), (23, .lst 9 (List.map Gq0.lv r1.1)), (24, .I (r1.1.length : Int)), (25, .I n4)] [(153, .arr 68 3 (List.map Gq2.lv l5))] R (sN (oIx (f := Gq0.lv) te25 tk52 ts52 R R Gq0.ok hx7 R (sN (oLdA R tk52 ta52 ts52 R R (sN (oAl (id := 112) R tz52 R R (s_ (oSt R R R tk52 ts52 R R R (s0 ((Wk.trans (Wk.eq (el := [(1, .I p1), (9, .lst 6 (List.map GBag.lv l3)), (10, .arr 153 (List.length l5)), (12, .ptr 112 0), (23, .lst 9 (List.map Gq0.lv r1.1)), (24, .I (r1.1.length : Int)), (25, .I n4)]) (ml := [(112, .box (Gq0.lv x7).cells), (153, .arr 68 3 (List.map Gq2.lv l5))]) R R R R) (Wk.trans (Wk.frzB 112 (Gq0.lv x7).cells R R R (prN R)) (Wk.eq R R R R))))))))))))) (LH.seq (LH.seqT [(1, .I p1), (9, .lst 6 (List.map GBag.lv l3)), (10, .arr 153 (List.length l5)), (12, .sptr (Gq0.lv x7).cells), (23, .lst 9 (List.map Gq0.lv r1.1)), (24, .I (r1.1.length : Int)), (25, .I n4), (33, .bool (decide (x7.Stamp.Time > p1)))] [(153, .arr 68 3 (List.map Gq2.lv l5))] R (sN (oFaS tf52_0 tk50 ts50 R R R (sN (oFaS tf50_0 tk3 ts3 R R R (sN (oLd R tk3 ta3 (sMi R (sN (oGt R R zS))))))))) (LH.cond (t := (decide (x7.Stamp.Time > p1))) R (fun hc8 => ?_) (fun hc8 => ?_))))
   ·replace h := iteT h hc8
    refine LH.exit (thenX (blockX R (thenX (roundX (blockH (thenN (LH.wk ((Wk.trans (Wk.eq (el := [(9, .lst 6 (List.map GBag.lv l3)), (10, .arr 153 (List.length l5))]) (ml := [(153, .arr 68 3 (List.map Gq2.lv l5))]) R R R R) (Wk.trans (Wk.frzL (f := Gq2.lv) (el' := [(9, .lst 6 (List.map GBag.lv l3)), (10, .lst 3 (List.map Gq2.lv l5))]) 153 68 3 l5 R R (prN R) (fK R (fZ fN))) (Wk.eq (el := [(9, .lst 6 (List.map GBag.lv l3)), (10, .lst 3 (List.map Gq2.lv l5))]) (ml := []) R R R R)))) (LH.seqT [(4, .lst 6 (List.map GBag.lv l3)), (5, .lst 3 (List.map Gq2.lv l5)), (6, .I 0)] [] R (sMl R (sMl R (sAl R (sAl R (sAi R zS))))) (LH.ret ?_)))))))))
    obtain rfl := oI h
    exact retE (aT Tryz.results9) (lrT R (lrT R (lrT R (lr0 ⟨memN mN, R, prK R, (Sub.tup (sbR (sbR (sbR sbN))))⟩))))
   replace h := iteF h hc8
   refine LH.skip (thenN ?_)
   obtain ⟨r9, hr9, h⟩ := bindS h
   refine LH.seqT [(1, .I p1), (9, .lst 6 (List.map GBag.lv l3)), (10, .arr 153 (List.length l5)), (12, .sptr (Gq0.lv x7).cells), (13, .lst 6 (List.map GBag.lv r9.1)), (14, .I r9.2), (23, .lst 9 (List.map Gq0.lv r1.1)), (24, .I (r1.1.length : Int)), (25, .I n4)] [(153, .arr 68 3 (List.map Gq2.lv l5))] R (sMl R (sN (oLdA R tk52 ta52 ts52 R R (sN (oCP (args := [.lst 6 (List.map GBag.lv l3), Gq0.lv x7]) R isF34 R (sbR (sbR sbN)) (q267q hr9) R (sMt R (sN (oEx R R (sN (oEx R R (sAl R (sAi R zS)))))))))))) (LH.seq (LH.seqT [(1, .I p1), (9, .lst 6 (List.map GBag.lv l3)), (10, .arr 153 (List.length l5)), (12, .sptr (Gq0.lv x7).cells), (13, .lst 6 (List.map GBag.lv r9.1)), (14, .I r9.2), (23, .lst 9 (List.map Gq0.lv r1.1)), (24, .I (r1.1.length : Int)), (25, .I n4), (41, .bool (r9.2 != 0))] [(153, .arr 68 3 (List.map Gq2.lv l5))] R (sMi R (sN (oNe R R zS))) (LH.cond (t := (r9.2 != 0)) R (fun hc10 => ?_) (fun hc10 => ?_))))
   ·replace h := iteT h hc10
    obtain ⟨v11, hv11, h⟩ := bindS h
    refine LH.seqT [(1, .I p1), (9, .lst 6 (List.map GBag.lv l3)), (10, .arr 153 (List.length v11)), (23, .lst 9 (List.map Gq0.lv r1.1)), (24, .I (r1.1.length : Int)), (25, .I n4)] [(153, .arr 68 3 (List.map Gq2.lv v11))] R (sMa R (sN (oFaS tf52_0 tk50 ts50 R R R (sN (oFaS tf50_1 tk3 ts3 R R R (sN (oLd R tk3 ta3 (sN (oFaS tf52_0 tk50 ts50 R R R (sN (oFaS tf50_2 tk3 ts3 R R R (sN (oLd R tk3 ta3 (sN (oBd (vs := [(0, .I x7.Stamp.Source), (1, .I x7.Stamp.Seq)]) tu66 tz66 R (lf tf66_0 ts3 tk3 R R R (lf tf66_1 ts3 tk3 R R R lf0)) (sMi R (sN (oBd (vs := [(0, .agg [.I x7.Stamp.Source, .I x7.Stamp.Seq]), (1, .I r9.2)]) tu68 tz68 R (lf tf68_0 ts66 tk66 R R R (lf tf68_1 ts29 tk29 R R R lf0)) (sN (oBS (f := Gq2.lv) (ys := [(Gq2.mk (Gq1.mk x7.Stamp.Source x7.Stamp.Seq) r9.2)]) te28 tr68 ts68 R R R Gq2.ok (sN (oAp (f := Gq2.lv) te28 tr68 ts68 R R (prN R) R hv11 (sAa R zS))))))))))))))))))))))) (LH.exit (thenX (blockH (thenN (LH.loneT [(1, .I p1), (9, .lst 6 (List.map GBag.lv l3)), (10, .arr 153 (List.length v11)), (23, .lst 9 (List.map Gq0.lv r1.1)), (24, .I (r1.1.length : Int)), (25, .I (i64 (n4 + 1)))] [(153, .arr 68 3 (List.map Gq2.lv v11))] R (sN (oAdd R R (sMi R zS))) ?_)))))
    exact roundI ⟨l3, (i64 (n4 + 1)), v11, hrec1 ▸ h, R, R⟩ (Wk.eq R R R R)
   replace h := iteF h hc10
   refine LH.skip (thenN (LH.loneT [(1, .I p1), (9, .lst 6 (List.map GBag.lv r9.1)), (10, .arr 153 (List.length l5)), (23, .lst 9 (List.map Gq0.lv r1.1)), (24, .I (r1.1.length : Int)), (25, .I n4)] [(153, .arr 68 3 (List.map Gq2.lv l5))] R (sMl R (sAl R zS)) (blockN (thenN (LH.loneT [(1, .I p1), (9, .lst 6 (List.map GBag.lv r9.1)), (10, .arr 153 (List.length l5)), (23, .lst 9 (List.map Gq0.lv r1.1)), (24, .I (r1.1.length : Int)), (25, .I (i64 (n4 + 1)))] [(153, .arr 68 3 (List.map Gq2.lv l5))] R (sN (oAdd R R (sMi R zS))) ?_)))))
   exact roundI ⟨r9.1, (i64 (n4 + 1)), l5, hrec1 ▸ h, R, R⟩ (Wk.eq R R R R)
  replace h := iteF h hc6
  refine LH.exit (thenX (roundX (blockH (thenN (LH.wk ((Wk.trans (Wk.eq (el := [(9, .lst 6 (List.map GBag.lv l3)), (10, .arr 153 (List.length l5))]) (ml := [(153, .arr 68 3 (List.map Gq2.lv l5))]) R R R R) (Wk.trans (Wk.frzL (f := Gq2.lv) (el' := [(9, .lst 6 (List.map GBag.lv l3)), (10, .lst 3 (List.map Gq2.lv l5))]) 153 68 3 l5 R R (prN R) (fK R (fZ fN))) (Wk.eq (el := [(9, .lst 6 (List.map GBag.lv l3)), (10, .lst 3 (List.map Gq2.lv l5))]) (ml := []) R R R R)))) (LH.seqT [(4, .lst 6 (List.map GBag.lv l3)), (5, .lst 3 (List.map Gq2.lv l5)), (6, .I 0)] [] R (sMl R (sMl R (sAl R (sAl R (sAi R zS))))) (LH.ret ?_)))))))
  obtain rfl := oI h
  exact retE (aT Tryz.results9) (lrT R (lrT R (lrT R (lr0 ⟨memN mN, R, prK R, (Sub.tup (sbR (sbR (sbR sbN))))⟩))))

theorem q47q {F : Nat} {p0 : List Int} {p1 : List Int} {r : Bool} (h : q36q F p0 p1 = some r) : LCall Tryz.prog 19 [.L p0, .L p1] (Mem.of []) (.bool r) (Mem.of []) := by
  unfold q36q at h
  refine bodyT Tryz.func19 R (nT Tryz.ntmps19 R) (LH.wk (Wk.eq (el := [(0, .L p0), (1, .L p1)]) (ml := []) R R R R) (LH.seqT [(0, .L p0), (1, .L p1)] [] R (sAb R zS) (LH.seq (LH.seqT [(0, .L p0), (1, .L p1), (10, .bool ((p0.length : Int) != (p1.length : Int)))] [] R (sMl R (sN (oLnL (f := LV.I) te22 R (sMl R (sN (oLnL (f := LV.I) te22 R (sN (oNe R R zS)))))))) (LH.cond (t := ((p0.length : Int) != (p1.length : Int))) R (fun hc1 => ?_) (fun hc1 => ?_))))))
  ·replace h := iteT h hc1
   refine LH.seqT [(4, .bool false)] [] R (sAb R zS) (LH.ret (thenR ?_))
   obtain rfl := oI h
   exact retE (aT Tryz.results19) (lrT R (lr0 ⟨memN mN, R, prK R, Sub.rfl⟩))
  replace h := iteF h hc1
  refine LH.skip (thenN (LH.wk (Wk.eq (el := [(0, .L p0), (1, .L p1)]) (ml := []) R R R R) (LH.seq (LH.seqT [(0, .L p0), (1, .L p1), (5, .I 0)] [] R (sAi R zS) (LH.block (LH.loop (fun n e m => ∃ (n2 : Int), q159q p0 p1 n n2 = some r ∧ e = Env.of [(0, .L p0), (1, .L p1), (5, .I n2)] ∧ m = Mem.of []) F ⟨0, h, R, R⟩ ?_))))))
  clear h
  rintro n e m ⟨n2, h, rfl, rfl⟩
  rcases n with _ | n
  · cases (show Option.none = some _ from h)
  obtain ⟨rec1, hrec1⟩ : ∃ f, f = q159q p0 p1 n := ⟨_, rfl⟩
  replace h : q177q p0 p1 rec1 n2 = some r := hrec1 ▸ h
  unfold q177q at h
  refine LH.seq (LH.seqT [(0, .L p0), (1, .L p1), (5, .I n2), (14, .bool (decide (n2 < (p0.length : Int))))] [] R (sMi R (sMl R (sN (oLnL (f := LV.I) te22 R (sN (oLt R R zS)))))) (LH.cond (t := (decide (n2 < (p0.length : Int)))) R (fun hc3 => ?_) (fun hc3 => ?_)))
  ·replace h := iteT h hc3
   refine LH.skip (thenN (LH.wk (Wk.eq (el := [(0, .L p0), (1, .L p1), (5, .I n2)]) (ml := []) R R R R) (LH.seq (LH.block ?_))))
   obtain ⟨x4, hx4, h⟩ := bindS h
   obtain ⟨x5, hx5, h⟩ := bindS h
   refine LH.seqJM mixed [] [0, 0, 0, 0, 0, 0, 0, 0, 0] [(0, .L p0), (1, .L p1), (5, .I n2), (25, .bool (x4 != x5))] [] R R (by kernel_rfl) (mMl R (mMi R (mN0 (oIx (f := LV.I) te22 tk3 ts3 R R okI hx4 R ⟨R, mN0 (oLd R tk3 ta3 ⟨R, mMl R (mMi R (mN0 (oIx (f := LV.I) te22 tk3 ts3 R R okI hx5 R ⟨R, mN0 (oLd R tk3 ta3 ⟨R, mN0 (oNe R R ⟨R, zM⟩)⟩)⟩)))⟩)⟩)))) (LH.cond (t := (x4 != x5)) R (fun hc6 => ?_) (fun hc6 => ?_))
   ·replace h := iteT h hc6
    refine LH.seqT [(4, .bool false)] [] R (sAb R zS) (LH.ret (blockR (thenR (roundR (blockR (thenR ?_))))))
    obtain rfl := oI h
    exact retE (aT Tryz.results19) (lrT R (lr0 ⟨memN mN, R, prK R, Sub.rfl⟩))
   replace h := iteF h hc6
   refine LH.skip (blockN (thenN (LH.loneT [(0, .L p0), (1, .L p1), (5, .I (i64 (n2 + 1)))] [] R (sMi R (sN (oAdd R R (sAi R zS)))) ?_)))
   exact roundI ⟨(i64 (n2 + 1)), hrec1 ▸ h, R, R⟩ (Wk.eq R R R R)
  replace h := iteF h hc3
  refine LH.exit (thenX (roundX (blockH (thenN (LH.seqT [(4, .bool true)] [] R (sAb R zS) (LH.ret ?_))))))
  obtain rfl := oI h
  exact retE (aT Tryz.results19) (lrT R (lr0 ⟨memN mN, R, prK R, Sub.rfl⟩))

theorem q281q {F : Nat} {p0 : Gq0} {p1 : Gq0} {r : Bool} (h : q203q F p0 p1 = some r) : LCall Tryz.prog 70 [Gq0.lv p0, Gq0.lv p1] (Mem.of []) (.bool r) (Mem.of []) := by
  unfold q203q at h
  refine bodyT Tryz.func70 R (nT Tryz.ntmps70 R) (LH.wk (Wk.eq (el := [(0, Gq0.lv p0), (1, Gq0.lv p1)]) (ml := []) R R R R) (LH.seqT [(2, .sptr (Gq0.lv p0).cells), (3, .sptr (Gq0.lv p1).cells)] [] R (sB (oBxR R R R R (sB (oBxR R R R R (sAb R zS))))) ?_))
  obtain ⟨w2, hv, h⟩ := bindS h
  refine LH.seqT [(4, .bool w2)] [] R ?_ ?_
  ·refine sN (oFaS tf52_0 tk50 ts50 R R R (sN (oLdA R tk50 ta50 ts50 R R (sN (oFaS tf52_0 tk50 ts50 R R R (sN (oLdA R tk50 ta50 ts50 R R (sN (oEqA R R (ae50 p0.Stamp p1.Stamp) (sMb R ?_))))))))))
   by_cases hb3 : (decide (p0.Stamp = p1.Stamp)) = true
   ·replace hv := iteT hv hb3
    refine sT R (cB hb3) (oFaS tf52_1 tk3 ts3 R R R (sT R (cB hb3) (oLd R tk3 ta3 (sT R (cB hb3) (oFaS tf52_1 tk3 ts3 R R R (sT R (cB hb3) (oLd R tk3 ta3 (sT R (cB hb3) (oEq R R (sN (oPkT (cB hb3) (v := (.bool _)) R (sMb R ?_))))))))))))
    by_cases hb4 : (p0.Kind == p1.Kind) = true
    ·replace hv := iteT hv hb4
     refine sT R (cB hb4) (oFaS tf52_2 tk3 ts3 R R R (sT R (cB hb4) (oLd R tk3 ta3 (sT R (cB hb4) (oFaS tf52_2 tk3 ts3 R R R (sT R (cB hb4) (oLd R tk3 ta3 (sT R (cB hb4) (oEq R R (sN (oPkT (cB hb4) (v := (.bool _)) R (sMb R ?_))))))))))))
     by_cases hb5 : (p0.Bag == p1.Bag) = true
     ·replace hv := iteT hv hb5
      refine sT R (cB hb5) (oFaS tf52_3 tk3 ts3 R R R (sT R (cB hb5) (oLd R tk3 ta3 (sT R (cB hb5) (oFaS tf52_3 tk3 ts3 R R R (sT R (cB hb5) (oLd R tk3 ta3 (sT R (cB hb5) (oEq R R (sN (oPkT (cB hb5) (v := (.bool _)) R (sMb R ?_))))))))))))
      by_cases hb6 : (p0.Seal == p1.Seal) = true
      ·replace hv := iteT hv hb6
       refine sT R (cB hb6) (oFaS tf52_4 tk3 ts3 R R R (sT R (cB hb6) (oLd R tk3 ta3 (sT R (cB hb6) (oFaS tf52_4 tk3 ts3 R R R (sT R (cB hb6) (oLd R tk3 ta3 (sT R (cB hb6) (oEq R R (sN (oPkT (cB hb6) (v := (.bool _)) R (sMb R ?_))))))))))))
       by_cases hb7 : (p0.From == p1.From) = true
       ·replace hv := iteT hv hb7
        refine sT R (cB hb7) (oFaS tf52_5 tk3 ts3 R R R (sT R (cB hb7) (oLd R tk3 ta3 (sT R (cB hb7) (oFaS tf52_5 tk3 ts3 R R R (sT R (cB hb7) (oLd R tk3 ta3 (sT R (cB hb7) (oEq R R (sN (oPkT (cB hb7) (v := (.bool _)) R (sMb R ?_))))))))))))
        by_cases hb8 : (p0.To == p1.To) = true
        ·replace hv := iteT hv hb8
         refine sT R (cB hb8) (oFaS tf52_6 tk22 ts22 R R R (sT R (cB hb8) (oLd R tk22 ta22 (sT R (cB hb8) (oFaS tf52_6 tk22 ts22 R R R (sT R (cB hb8) (oLd R tk22 ta22 ?_)))))))
         obtain ⟨r9, hr9, hv⟩ := bindS hv
         refine sT R (cB hb8) (oCP (args := [.L p0.Candidates, .L p1.Candidates]) R isF19 R (sbR (sbR sbN)) (q47q hr9) R (sN (oPkT (cB hb8) (v := (.bool _)) R (sAb R ?_))))
         obtain rfl := oI hv
         exact zS
        ·replace hb8 := bF hb8
         replace hv := iteF hv hb8
         refine sF R R hb8 (sF R R hb8 (sF R R hb8 (sF R R hb8 (sF R R hb8 (sN (oPkF (cB hb8) (v := (.bool _)) R (sAb R ?_)))))))
         obtain rfl := oI hv
         exact zS
       ·replace hb7 := bF hb7
        replace hv := iteF hv hb7
        refine sF R R hb7 (sF R R hb7 (sF R R hb7 (sF R R hb7 (sF R R hb7 (sN (oPkF (cB hb7) (v := (.bool _)) R (sMb R (sF R R R (sF R R R (sF R R R (sF R R R (sF R R R (sN (oPkF R (v := (.bool _)) R (sAb R ?_)))))))))))))))
        obtain rfl := oI hv
        exact zS
      ·replace hb6 := bF hb6
       replace hv := iteF hv hb6
       refine sF R R hb6 (sF R R hb6 (sF R R hb6 (sF R R hb6 (sF R R hb6 (sN (oPkF (cB hb6) (v := (.bool _)) R (sMb R (sF R R R (sF R R R (sF R R R (sF R R R (sF R R R (sN (oPkF R (v := (.bool _)) R (sMb R (sF R R R (sF R R R (sF R R R (sF R R R (sF R R R (sN (oPkF R (v := (.bool _)) R (sAb R ?_)))))))))))))))))))))))
       obtain rfl := oI hv
       exact zS
     ·replace hb5 := bF hb5
      replace hv := iteF hv hb5
      refine sF R R hb5 (sF R R hb5 (sF R R hb5 (sF R R hb5 (sF R R hb5 (sN (oPkF (cB hb5) (v := (.bool _)) R (sMb R (sF R R R (sF R R R (sF R R R (sF R R R (sF R R R (sN (oPkF R (v := (.bool _)) R (sMb R (sF R R R (sF R R R (sF R R R (sF R R R (sF R R R (sN (oPkF R (v := (.bool _)) R (sMb R (sF R R R (sF R R R (sF R R R (sF R R R (sF R R R (sN (oPkF R (v := (.bool _)) R (sAb R ?_)))))))))))))))))))))))))))))))
      obtain rfl := oI hv
      exact zS
    ·replace hb4 := bF hb4
     replace hv := iteF hv hb4
     refine sF R R hb4 (sF R R hb4 (sF R R hb4 (sF R R hb4 (sF R R hb4 (sN (oPkF (cB hb4) (v := (.bool _)) R (sMb R (sF R R R (sF R R R (sF R R R (sF R R R (sF R R R (sN (oPkF R (v := (.bool _)) R (sMb R (sF R R R (sF R R R (sF R R R (sF R R R (sF R R R (sN (oPkF R (v := (.bool _)) R (sMb R (sF R R R (sF R R R (sF R R R (sF R R R (sF R R R (sN (oPkF R (v := (.bool _)) R (sMb R (sF R R R (sF R R R (sF R R R (sF R R R (sF R R R (sN (oPkF R (v := (.bool _)) R (sAb R ?_)))))))))))))))))))))))))))))))))))))))
     obtain rfl := oI hv
     exact zS
   ·replace hb3 := bF hb3
    replace hv := iteF hv hb3
    refine sF R R hb3 (sF R R hb3 (sF R R hb3 (sF R R hb3 (sF R R hb3 (sN (oPkF (cB hb3) (v := (.bool _)) R (sMb R (sF R R R (sF R R R (sF R R R (sF R R R (sF R R R (sN (oPkF R (v := (.bool _)) R (sMb R (sF R R R (sF R R R (sF R R R (sF R R R (sF R R R (sN (oPkF R (v := (.bool _)) R (sMb R (sF R R R (sF R R R (sF R R R (sF R R R (sF R R R (sN (oPkF R (v := (.bool _)) R (sMb R (sF R R R (sF R R R (sF R R R (sF R R R (sF R R R (sN (oPkF R (v := (.bool _)) R (sMb R (sF R R R (sF R R R (sF R R R (sF R R R (sF R R R (sN (oPkF R (v := (.bool _)) R (sAb R ?_)))))))))))))))))))))))))))))))))))))))))))))))
    obtain rfl := oI hv
    exact zS
  clear hv
  refine LH.ret ?_
  obtain rfl := oI h
  exact retE (aT Tryz.results70) (lrT R (lr0 ⟨memN mN, R, prK R, Sub.rfl⟩))

theorem q241q {p0 : Gq3} {r : Bool} (h : q192q p0 = some r) : LCall Tryz.prog 105 [.agg [.I p0.Time, .I p0.Source, .I p0.Seq]] (Mem.of []) (.bool r) (Mem.of []) := by
  unfold q192q at h
  refine bodyT Tryz.func105 R (nT Tryz.ntmps105 R) (LH.wk (Wk.eq (el := [(0, .agg [.I p0.Time, .I p0.Source, .I p0.Seq])]) (ml := []) R R R R) (LH.seqT [(1, .sptr [.I p0.Time, .I p0.Source, .I p0.Seq])] [] R (sB (oBxR R R R R (sAb R zS))) (LH.seqT [(2, .bool ((decide (p0.Time ≥ 0)) && ((decide (p0.Time ≤ 1000000)) && ((decide (p0.Source ≥ 0)) && ((decide (p0.Source ≤ 99)) && ((decide (p0.Seq ≥ 0)) && (decide (p0.Seq ≤ 9999))))))))] [] R ?_ ?_)))
  ·refine sN (oFaS tf50_0 tk3 ts3 R R R (sN (oLd R tk3 ta3 (sN (oGe R R (sMb R ?_))))))
   by_cases hb2 : (decide (p0.Time ≥ 0)) = true
   ·refine sT R (cB hb2) (oFaS tf50_0 tk3 ts3 R R R (sT R (cB hb2) (oLd R tk3 ta3 (sT R (cB hb2) (oLe R R (sN (oPkT (cB hb2) (v := (.bool _)) R (sMb R ?_))))))))
    by_cases hb3 : (decide (p0.Time ≤ 1000000)) = true
    ·refine sT R (cB hb3) (oFaS tf50_1 tk3 ts3 R R R (sT R (cB hb3) (oLd R tk3 ta3 (sT R (cB hb3) (oGe R R (sN (oPkT (cB hb3) (v := (.bool _)) R (sMb R ?_))))))))
     by_cases hb4 : (decide (p0.Source ≥ 0)) = true
     ·refine sT R (cB hb4) (oFaS tf50_1 tk3 ts3 R R R (sT R (cB hb4) (oLd R tk3 ta3 (sT R (cB hb4) (oLe R R (sN (oPkT (cB hb4) (v := (.bool _)) R (sMb R ?_))))))))
      by_cases hb5 : (decide (p0.Source ≤ 99)) = true
      ·refine sT R (cB hb5) (oFaS tf50_2 tk3 ts3 R R R (sT R (cB hb5) (oLd R tk3 ta3 (sT R (cB hb5) (oGe R R (sN (oPkT (cB hb5) (v := (.bool _)) R (sMb R ?_))))))))
       by_cases hb6 : (decide (p0.Seq ≥ 0)) = true
       ·exact sT R (cB hb6) (oFaS tf50_2 tk3 ts3 R R R (sT R (cB hb6) (oLd R tk3 ta3 (sT R (cB hb6) (oLe R R (sN (oPkT (cB hb6) (v := (.bool _)) R (sAb R (s0 (Wk.to (eC (cB (Eq.trans (Eq.trans (Eq.trans (Eq.trans (andT hb6) (andT hb5)) (andT hb4)) (andT hb3)) (andT hb2))) eN) mN R (prK R)))))))))))
       ·replace hb6 := bF hb6
        exact sF R R hb6 (sF R R hb6 (sF R R hb6 (sN (oPkF (cB hb6) (v := (.bool _)) R (sAb R (s0 (Wk.to (eC (cB (Eq.trans (Eq.trans (Eq.trans (Eq.trans (andF hb6) (andT hb5)) (andT hb4)) (andT hb3)) (andT hb2))) eN) mN R (prK R))))))))
      ·replace hb5 := bF hb5
       exact sF R R hb5 (sF R R hb5 (sF R R hb5 (sN (oPkF (cB hb5) (v := (.bool _)) R (sMb R (sF R R R (sF R R R (sF R R R (sN (oPkF R (v := (.bool _)) R (sAb R (s0 (Wk.to (eC (cB (Eq.trans (Eq.trans (Eq.trans (andF hb5) (andT hb4)) (andT hb3)) (andT hb2))) eN) mN R (prK R))))))))))))))
     ·replace hb4 := bF hb4
      exact sF R R hb4 (sF R R hb4 (sF R R hb4 (sN (oPkF (cB hb4) (v := (.bool _)) R (sMb R (sF R R R (sF R R R (sF R R R (sN (oPkF R (v := (.bool _)) R (sMb R (sF R R R (sF R R R (sF R R R (sN (oPkF R (v := (.bool _)) R (sAb R (s0 (Wk.to (eC (cB (Eq.trans (Eq.trans (andF hb4) (andT hb3)) (andT hb2))) eN) mN R (prK R))))))))))))))))))))
    ·replace hb3 := bF hb3
     exact sF R R hb3 (sF R R hb3 (sF R R hb3 (sN (oPkF (cB hb3) (v := (.bool _)) R (sMb R (sF R R R (sF R R R (sF R R R (sN (oPkF R (v := (.bool _)) R (sMb R (sF R R R (sF R R R (sF R R R (sN (oPkF R (v := (.bool _)) R (sMb R (sF R R R (sF R R R (sF R R R (sN (oPkF R (v := (.bool _)) R (sAb R (s0 (Wk.to (eC (cB (Eq.trans (andF hb3) (andT hb2))) eN) mN R (prK R))))))))))))))))))))))))))
   ·replace hb2 := bF hb2
    exact sF R R hb2 (sF R R hb2 (sF R R hb2 (sN (oPkF (cB hb2) (v := (.bool _)) R (sMb R (sF R R R (sF R R R (sF R R R (sN (oPkF R (v := (.bool _)) R (sMb R (sF R R R (sF R R R (sF R R R (sN (oPkF R (v := (.bool _)) R (sMb R (sF R R R (sF R R R (sF R R R (sN (oPkF R (v := (.bool _)) R (sMb R (sF R R R (sF R R R (sF R R R (sN (oPkF R (v := (.bool _)) R (sAb R (s0 (Wk.to (eC (cB (andF hb2)) eN) mN R (prK R))))))))))))))))))))))))))))))))
  refine LH.ret ?_
  obtain rfl := oI h
  exact retE (aT Tryz.results105) (lrT R (lr0 ⟨memN mN, R, prK R, Sub.rfl⟩))

theorem q253q {p0 : Gq3} {p1 : Gq3} {p2 : Int} {p3 : Int} {r : Bool} (h : q187q p0 p1 p2 p3 = some r) : LCall Tryz.prog 106 [.agg [.I p0.Time, .I p0.Source, .I p0.Seq], .agg [.I p1.Time, .I p1.Source, .I p1.Seq], .I p2, .I p3] (Mem.of []) (.bool r) (Mem.of []) := by
  unfold q187q at h
  refine bodyT Tryz.func106 R (nT Tryz.ntmps106 R) (LH.wk (Wk.eq (el := [(0, .agg [.I p0.Time, .I p0.Source, .I p0.Seq]), (1, .agg [.I p1.Time, .I p1.Source, .I p1.Seq]), (2, .I p2), (3, .I p3)]) (ml := []) R R R R) (LH.seqT [(2, .I p2), (3, .I p3), (4, .sptr [.I p0.Time, .I p0.Source, .I p0.Seq]), (5, .sptr [.I p1.Time, .I p1.Source, .I p1.Seq])] [] R (sB (oBxR R R R R (sB (oBxR R R R R (sAb R zS))))) (LH.seqT [(8, .bool ((p0.Source == p1.Source) && ((p0.Seq == p1.Seq) && ((p0.Time != p1.Time) || (p2 != p3)))))] [] R ?_ ?_)))
  ·refine sN (oFaS tf50_1 tk3 ts3 R R R (sN (oLd R tk3 ta3 (sN (oFaS tf50_1 tk3 ts3 R R R (sN (oLd R tk3 ta3 (sN (oEq R R (sMb R ?_))))))))))
   by_cases hb2 : (p0.Source == p1.Source) = true
   ·refine sT R (cB hb2) (oFaS tf50_2 tk3 ts3 R R R (sT R (cB hb2) (oLd R tk3 ta3 (sT R (cB hb2) (oFaS tf50_2 tk3 ts3 R R R (sT R (cB hb2) (oLd R tk3 ta3 (sT R (cB hb2) (oEq R R (sN (oPkT (cB hb2) (v := (.bool _)) R (sMb R ?_))))))))))))
    by_cases hb3 : (p0.Seq == p1.Seq) = true
    ·refine sT R (cB hb3) (oFaS tf50_0 tk3 ts3 R R R (sT R (cB hb3) (oLd R tk3 ta3 (sT R (cB hb3) (oFaS tf50_0 tk3 ts3 R R R (sT R (cB hb3) (oLd R tk3 ta3 (sT R (cB hb3) (oNe R R (sT R (cB hb3) (oM (v := (.bool _)) R ?_)))))))))))
     by_cases hb4 : (p0.Time != p1.Time) = true
     ·exact sF R R hb4 (sF R R hb4 (sF R R hb4 (sT R (cB hb3) (oPkT (cB hb4) (v := (.bool _)) R (sN (oPkT (cB hb3) (v := (.bool _)) R (sAb R (s0 (Wk.to (eC (cB (Eq.trans (Eq.trans (orT hb4) (andT hb3)) (andT hb2))) eN) mN R (prK R))))))))))
     ·replace hb4 := bF hb4
      exact sT R (cB hb4) (oM (v := (.int _ _)) R (sT R (cB hb4) (oM (v := (.int _ _)) R (sT R (cB hb4) (oNe R R (sT R (cB hb3) (oPkF (cB hb4) (v := (.bool _)) R (sN (oPkT (cB hb3) (v := (.bool _)) R (sAb R (s0 (Wk.to (eC (cB (Eq.trans (Eq.trans (orF hb4) (andT hb3)) (andT hb2))) eN) mN R (prK R)))))))))))))
    ·replace hb3 := bF hb3
     exact sF R R hb3 (sF R R hb3 (sF R R hb3 (sF R R hb3 (sF R R hb3 (sF R R hb3 (sU R R (sU R R (sU R R (sF R R hb3 (sN (oPkF (cB hb3) (v := (.bool _)) R (sAb R (s0 (Wk.to (eC (cB (Eq.trans (andF hb3) (andT hb2))) eN) mN R (prK R)))))))))))))))
   ·replace hb2 := bF hb2
    exact sF R R hb2 (sF R R hb2 (sF R R hb2 (sF R R hb2 (sF R R hb2 (sN (oPkF (cB hb2) (v := (.bool _)) R (sMb R (sF R R R (sF R R R (sF R R R (sF R R R (sF R R R (sF R R R (sU R R (sU R R (sU R R (sF R R R (sN (oPkF R (v := (.bool _)) R (sAb R (s0 (Wk.to (eC (cB (andF hb2)) eN) mN R (prK R)))))))))))))))))))))))
  refine LH.ret ?_
  obtain rfl := oI h
  exact retE (aT Tryz.results106) (lrT R (lr0 ⟨memN mN, R, prK R, Sub.rfl⟩))

theorem q268q {F : Nat} {p0 : List Gq3} {p1 : List Int} {p2 : Int} {r : Bool} (h : q182q F p0 p1 p2 = some r) : LCall Tryz.prog 95 [.lst 3 (List.map Gq3.lv p0), .L p1, .I p2] (Mem.of []) (.bool r) (Mem.of []) := by
  unfold q182q at h
  refine bodyT Tryz.func95 R (nT Tryz.ntmps95 R) (LH.wk (Wk.eq (el := [(0, .lst 3 (List.map Gq3.lv p0)), (1, .L p1), (2, .I p2)]) (ml := []) R R R R) (LH.seqT [(0, .lst 3 (List.map Gq3.lv p0)), (1, .L p1), (2, .I p2)] [] R (sAb R zS) (LH.seq ?_)))
  obtain ⟨x1, hx1, h⟩ := bindS h
  obtain ⟨r2, hr2, h⟩ := bindS h
  refine LH.seqT [(0, .lst 3 (List.map Gq3.lv p0)), (1, .L p1), (2, .I p2), (13, .bool (!r2))] [] R (sMl R (sMi R (sN (oIx (f := Gq3.lv) te95 tk50 ts50 R R Gq3.ok hx1 R (sN (oLdA R tk50 ta50 ts50 R R (sN (oCP (args := [.agg [.I x1.Time, .I x1.Source, .I x1.Seq]]) R isF105 R (sbR sbN) (q241q hr2) R (sN (oNot R zS)))))))))) (LH.cond (t := (!r2)) R (fun hc3 => ?_) (fun hc3 => ?_))
  ·replace h := iteT h hc3
   refine LH.seqT [(6, .bool false)] [] R (sAb R zS) (LH.ret (thenR ?_))
   obtain rfl := oI h
   exact retE (aT Tryz.results95) (lrT R (lr0 ⟨memN mN, R, prK R, Sub.rfl⟩))
  replace h := iteF h hc3
  refine LH.skip (thenN (LH.wk (Wk.eq (el := [(0, .lst 3 (List.map Gq3.lv p0)), (1, .L p1), (2, .I p2)]) (ml := []) R R R R) (LH.seq (LH.seqT [(0, .lst 3 (List.map Gq3.lv p0)), (1, .L p1), (2, .I p2), (7, .I 0)] [] R (sAi R zS) (LH.block (LH.loop (fun n e m => ∃ (n4 : Int), q125q p0 p1 p2 n n4 = some r ∧ e = Env.of [(0, .lst 3 (List.map Gq3.lv p0)), (1, .L p1), (2, .I p2), (7, .I n4)] ∧ m = Mem.of []) F ⟨0, h, R, R⟩ ?_))))))
  clear h
  rintro n e m ⟨n4, h, rfl, rfl⟩
  rcases n with _ | n
  · cases (show Option.none = some _ from h)
  obtain ⟨rec1, hrec1⟩ : ∃ f, f = q125q p0 p1 p2 n := ⟨_, rfl⟩
  replace h : q102q p0 p1 p2 rec1 n4 = some r := hrec1 ▸ h
  unfold q102q at h
  refine LH.seq (LH.seqT [(0, .lst 3 (List.map Gq3.lv p0)), (1, .L p1), (2, .I p2), (7, .I n4), (17, .bool (decide (n4 < (p0.length : Int))))] [] R (sMi R (sMl R (sN (oLnL (f := Gq3.lv) te95 R (sN (oLt R R zS)))))) (LH.cond (t := (decide (n4 < (p0.length : Int)))) R (fun hc5 => ?_) (fun hc5 => ?_)))
  ·replace h := iteT h hc5
   refine LH.skip (thenN (LH.wk (Wk.eq (el := [(0, .lst 3 (List.map Gq3.lv p0)), (1, .L p1), (2, .I p2), (7, .I n4)]) (ml := []) R R R R) (LH.seq (LH.block ?_))))
   obtain ⟨w7, hv, h⟩ := bindS h
   refine LH.seqJM mixed [] [0, 0, 0, 0, 0, 0, 0, 0, 0, 0, 0, 0, 0, 0, 0, 0, 0, 0, 0, 0, 0, 0, 0, 0, 0, 0, 0, 0, 0, 0, 0, 0, 0, 0, 0, 0, 0, 0, 0, 0] [(0, .lst 3 (List.map Gq3.lv p0)), (1, .L p1), (2, .I p2), (7, .I n4), (59, .bool w7)] [] R R (by kernel_rfl) ?_ ?_
   ·refine mMl R (mMi R ?_)
    obtain ⟨x8, hx8, hv⟩ := bindS hv
    refine mN0 (oIx (f := Gq3.lv) te95 tk50 ts50 R R Gq3.ok hx8 R ⟨R, mN0 (oLdA R tk50 ta50 ts50 R R ⟨R, ?_⟩)⟩)
    obtain ⟨r9, hr9, hv⟩ := bindS hv
    refine mN0 (oCP (args := [.agg [.I x8.Time, .I x8.Source, .I x8.Seq]]) R isF105 R (sbR sbN) (q241q hr9) R ⟨R, mMb R ?_⟩)
    by_cases hb10 : r9 = true
    ·replace hv := iteT hv hb10
     refine mT R (cB hb10) (mMl R (mT R (cB hb10) (mMi R ?_)))
     obtain ⟨x11, hx11, hv⟩ := bindS hv
     refine mT R (cB hb10) (mN0 (oIx (f := Gq3.lv) te95 tk50 ts50 R R Gq3.ok hx11 R ⟨R, mT R (cB hb10) (mN0 (oLdA R tk50 ta50 ts50 R R ⟨R, mT R (cB hb10) (mMl R (mT R (cB hb10) (mMi R ?_)))⟩))⟩))
     obtain ⟨x12, hx12, hv⟩ := bindS hv
     refine mT R (cB hb10) (mN0 (oIx (f := Gq3.lv) te95 tk50 ts50 R R Gq3.ok hx12 R ⟨R, mT R (cB hb10) (mN0 (oLdA R tk50 ta50 ts50 R R ⟨R, mT R (cB hb10) (mMl R (mT R (cB hb10) (mMi R ?_)))⟩))⟩))
     obtain ⟨x13, hx13, hv⟩ := bindS hv
     refine mT R (cB hb10) (mN0 (oIx (f := LV.I) te22 tk3 ts3 R R okI hx13 R ⟨R, mT R (cB hb10) (mN0 (oLd R tk3 ta3 ⟨R, mT R (cB hb10) (mMl R (mT R (cB hb10) (mMi R ?_)))⟩))⟩))
     obtain ⟨x14, hx14, hv⟩ := bindS hv
     refine mT R (cB hb10) (mN0 (oIx (f := LV.I) te22 tk3 ts3 R R okI hx14 R ⟨R, mT R (cB hb10) (mN0 (oLd R tk3 ta3 ⟨R, ?_⟩))⟩))
     obtain ⟨r15, hr15, hv⟩ := bindS hv
     refine mT R (cB hb10) (mN0 (oCP (args := [.agg [.I x11.Time, .I x11.Source, .I x11.Seq], .agg [.I x12.Time, .I x12.Source, .I x12.Seq], .I x13, .I x14]) R isF106 R (sbR (sbR (sbR (sbR sbN)))) (q253q hr15) R ⟨R, mT R (cB hb10) (mMb R ?_)⟩))
     by_cases hb16 : r15 = true
     ·replace hv := iteT hv hb16
      refine mF R R hb16 (mF R R hb16 (mF R R hb16 (mF R R hb16 (mU R R (mU R R (mU R R (mU R R (mU R R (mU R R (mU R R (mU R R (mU R R (mF R R hb16 (mT R (cB hb10) (mN0 (oPkT (cB hb16) (v := (.bool _)) R ⟨R, mN0 (oPkT (cB hb10) (v := (.bool _)) R ⟨R, ?_⟩)⟩))))))))))))))))
      obtain rfl := oI hv
      exact zM
     ·replace hb16 := bF hb16
      replace hv := iteF hv hb16
      refine mT R (cB hb16) (mMi R (mT R (cB hb16) (mMi R (mT R (cB hb16) (mN0 (oLt R R ⟨R, mT R (cB hb16) (mMb R ?_)⟩))))))
      by_cases hb17 : (decide (n4 < p2)) = true
      ·replace hv := iteT hv hb17
       refine mT R (cB hb17) (mMl R (mT R (cB hb17) (mMi R ?_)))
       obtain ⟨x18, hx18, hv⟩ := bindS hv
       refine mT R (cB hb17) (mN0 (oIx (f := Gq3.lv) te95 tk50 ts50 R R Gq3.ok hx18 R ⟨R, mT R (cB hb17) (mN0 (oLdA R tk50 ta50 ts50 R R ⟨R, mT R (cB hb17) (mMl R (mT R (cB hb17) (mMi R ?_)))⟩))⟩))
       obtain ⟨x19, hx19, hv⟩ := bindS hv
       refine mT R (cB hb17) (mN0 (oIx (f := Gq3.lv) te95 tk50 ts50 R R Gq3.ok hx19 R ⟨R, mT R (cB hb17) (mN0 (oLdA R tk50 ta50 ts50 R R ⟨R, mT R (cB hb17) (mN0 (oEqA R R (ae50 x18 x19) ⟨R, mT R (cB hb16) (mN0 (oPkT (cB hb17) (v := (.bool _)) R ⟨R, mT R (cB hb10) (mN0 (oPkF (cB hb16) (v := (.bool _)) R ⟨R, mN0 (oPkT (cB hb10) (v := (.bool _)) R ⟨R, ?_⟩)⟩))⟩))⟩))⟩))⟩))
       obtain rfl := oI hv
       exact zM
      ·replace hb17 := bF hb17
       replace hv := iteF hv hb17
       refine mF R R hb17 (mF R R hb17 (mF R R hb17 (mF R R hb17 (mF R R hb17 (mF R R hb17 (mF R R hb17 (mF R R hb17 (mF R R hb17 (mT R (cB hb16) (mN0 (oPkF (cB hb17) (v := (.bool _)) R ⟨R, mT R (cB hb10) (mN0 (oPkF (cB hb16) (v := (.bool _)) R ⟨R, mN0 (oPkT (cB hb10) (v := (.bool _)) R ⟨R, ?_⟩)⟩))⟩)))))))))))
       obtain rfl := oI hv
       exact zM
    ·replace hb10 := bF hb10
     replace hv := iteF hv hb10
     refine mF R R hb10 (mF R R hb10 (mF R R hb10 (mF R R hb10 (mF R R hb10 (mF R R hb10 (mF R R hb10 (mF R R hb10 (mF R R hb10 (mF R R hb10 (mF R R hb10 (mF R R hb10 (mF R R hb10 (mF R R hb10 (mF R R hb10 (mF R R hb10 (mF R R hb10 (mF R R hb10 (mU R R (mU R R (mU R R (mU R R (mU R R (mU R R (mU R R (mU R R (mU R R (mU R R (mU R R (mU R R (mU R R (mU R R (mF R R hb10 (mN0 (oPkF (cB hb10) (v := (.bool _)) R ⟨R, ?_⟩))))))))))))))))))))))))))))))))))
     obtain rfl := oI hv
     exact zM
   clear hv
   refine LH.cond (t := w7) R (fun hc20 => ?_) (fun hc20 => ?_)
   ·replace h := iteT h hc20
    refine LH.seqT [(6, .bool false)] [] R (sAb R zS) (LH.ret (blockR (thenR (roundR (blockR (thenR ?_))))))
    obtain rfl := oI h
    exact retE (aT Tryz.results95) (lrT R (lr0 ⟨memN mN, R, prK R, Sub.rfl⟩))
   replace h := iteF h hc20
   refine LH.skip (blockN (thenN (LH.loneT [(0, .lst 3 (List.map Gq3.lv p0)), (1, .L p1), (2, .I p2), (7, .I (i64 (n4 + 1)))] [] R (sMi R (sN (oAdd R R (sAi R zS)))) ?_)))
   exact roundI ⟨(i64 (n4 + 1)), hrec1 ▸ h, R, R⟩ (Wk.eq R R R R)
  replace h := iteF h hc5
  refine LH.exit (thenX (roundX (blockH (thenN (LH.seqT [(6, .bool true)] [] R (sAb R zS) (LH.ret ?_))))))
  obtain rfl := oI h
  exact retE (aT Tryz.results95) (lrT R (lr0 ⟨memN mN, R, prK R, Sub.rfl⟩))

theorem q188q {p0 : Int} {p1 : Int} {r : Int} (h : q142q p0 p1 = some r) : LCall Tryz.prog 107 [.I p0, .I p1] (Mem.of []) (.I r) (Mem.of []) := by
  unfold q142q at h
  refine bodyT Tryz.func107 R (nT Tryz.ntmps107 R) (LH.wk (Wk.eq (el := [(0, .I p0), (1, .I p1)]) (ml := []) R R R R) (LH.seqT [(0, .I p0), (1, .I p1)] [] R (sAi R zS) (LH.seq (LH.seqT [(0, .I p0), (1, .I p1), (7, .bool (decide (p0 < p1)))] [] R (sMi R (sMi R (sN (oLt R R zS)))) (LH.cond (t := (decide (p0 < p1))) R (fun hc1 => ?_) (fun hc1 => ?_))))))
  ·replace h := iteT h hc1
   refine LH.seqT [(4, .I (-1))] [] R (sAi R zS) (LH.ret (thenR ?_))
   obtain rfl := oI h
   exact retE (aT Tryz.results107) (lrT R (lr0 ⟨memN mN, R, prK R, Sub.rfl⟩))
  replace h := iteF h hc1
  refine LH.skip (thenN (LH.wk (Wk.eq (el := [(0, .I p0), (1, .I p1)]) (ml := []) R R R R) (LH.seq (LH.seqT [(10, .bool (decide (p0 > p1)))] [] R (sMi R (sMi R (sN (oGt R R zS)))) (LH.cond (t := (decide (p0 > p1))) R (fun hc2 => ?_) (fun hc2 => ?_))))))
  ·replace h := iteT h hc2
   refine LH.seqT [(4, .I 1)] [] R (sAi R zS) (LH.ret (thenR ?_))
   obtain rfl := oI h
   exact retE (aT Tryz.results107) (lrT R (lr0 ⟨memN mN, R, prK R, Sub.rfl⟩))
  replace h := iteF h hc2
  refine LH.skip (thenN (LH.seqT [(4, .I 0)] [] R (sAi R zS) (LH.ret ?_)))
  obtain rfl := oI h
  exact retE (aT Tryz.results107) (lrT R (lr0 ⟨memN mN, R, prK R, Sub.rfl⟩))

theorem q257q {p0 : Gq3} {p1 : Gq3} {r : Int} (h : q169q p0 p1 = some r) : LCall Tryz.prog 96 [.agg [.I p0.Time, .I p0.Source, .I p0.Seq], .agg [.I p1.Time, .I p1.Source, .I p1.Seq]] (Mem.of []) (.I r) (Mem.of []) := by
  unfold q169q at h
  refine bodyT Tryz.func96 R (nT Tryz.ntmps96 R) (LH.wk (Wk.eq (el := [(0, .agg [.I p0.Time, .I p0.Source, .I p0.Seq]), (1, .agg [.I p1.Time, .I p1.Source, .I p1.Seq])]) (ml := []) R R R R) (LH.seqT [(2, .sptr [.I p0.Time, .I p0.Source, .I p0.Seq]), (3, .sptr [.I p1.Time, .I p1.Source, .I p1.Seq])] [] R (sB (oBxR R R R R (sB (oBxR R R R R (sAi R zS))))) ?_))
  obtain ⟨r1, hr1, h⟩ := bindS h
  refine LH.seqT [(2, .sptr [.I p0.Time, .I p0.Source, .I p0.Seq]), (3, .sptr [.I p1.Time, .I p1.Source, .I p1.Seq]), (5, .I r1)] [] R (sN (oFaS tf50_0 tk3 ts3 R R R (sN (oLd R tk3 ta3 (sN (oFaS tf50_0 tk3 ts3 R R R (sN (oLd R tk3 ta3 (sN (oCP (args := [.I p0.Time, .I p1.Time]) R isF107 R (sbR (sbR sbN)) (q188q hr1) R (sAi R zS))))))))))) (LH.seq (LH.seqT [(2, .sptr [.I p0.Time, .I p0.Source, .I p0.Seq]), (3, .sptr [.I p1.Time, .I p1.Source, .I p1.Seq]), (5, .I r1), (12, .bool (r1 == 0))] [] R (sMi R (sN (oEq R R zS))) (LH.cond (t := (r1 == 0)) R (fun hc2 => ?_) (fun hc2 => ?_))))
  ·replace h := iteT h hc2
   obtain ⟨r3, hr3, h⟩ := bindS h
   refine LH.loneT [(2, .sptr [.I p0.Time, .I p0.Source, .I p0.Seq]), (3, .sptr [.I p1.Time, .I p1.Source, .I p1.Seq]), (5, .I r3)] [] R (sN (oFaS tf50_1 tk3 ts3 R R R (sN (oLd R tk3 ta3 (sN (oFaS tf50_1 tk3 ts3 R R R (sN (oLd R tk3 ta3 (sN (oCP (args := [.I p0.Source, .I p1.Source]) R isF107 R (sbR (sbR sbN)) (q188q hr3) R (sAi R zS))))))))))) (thenN (LH.seq (LH.seqT [(2, .sptr [.I p0.Time, .I p0.Source, .I p0.Seq]), (3, .sptr [.I p1.Time, .I p1.Source, .I p1.Seq]), (5, .I r3), (19, .bool (r3 == 0))] [] R (sMi R (sN (oEq R R zS))) (LH.cond (t := (r3 == 0)) R (fun hc4 => ?_) (fun hc4 => ?_)))))
   ·replace h := iteT h hc4
    obtain ⟨r5, hr5, h⟩ := bindS h
    refine LH.loneT [(5, .I r5)] [] R (sN (oFaS tf50_2 tk3 ts3 R R R (sN (oLd R tk3 ta3 (sN (oFaS tf50_2 tk3 ts3 R R R (sN (oLd R tk3 ta3 (sN (oCP (args := [.I p0.Seq, .I p1.Seq]) R isF107 R (sbR (sbR sbN)) (q188q hr5) R (sAi R zS))))))))))) (thenN (LH.seqT [(4, .I r5)] [] R (sMi R (sAi R zS)) (LH.ret ?_)))
    obtain rfl := oI h
    exact retE (aT Tryz.results96) (lrT R (lr0 ⟨memN mN, R, prK R, Sub.rfl⟩))
   replace h := iteF h hc4
   refine LH.skip (thenN (LH.seqT [(4, .I r3)] [] R (sMi R (sAi R zS)) (LH.ret ?_)))
   obtain rfl := oI h
   exact retE (aT Tryz.results96) (lrT R (lr0 ⟨memN mN, R, prK R, Sub.rfl⟩))
  replace h := iteF h hc2
  refine LH.skip (thenN (LH.wk (Wk.eq (el := [(2, .sptr [.I p0.Time, .I p0.Source, .I p0.Seq]), (3, .sptr [.I p1.Time, .I p1.Source, .I p1.Seq]), (5, .I r1)]) (ml := []) R R R R) (LH.seq (LH.seqT [(2, .sptr [.I p0.Time, .I p0.Source, .I p0.Seq]), (3, .sptr [.I p1.Time, .I p1.Source, .I p1.Seq]), (5, .I r1), (19, .bool (r1 == 0))] [] R (sMi R (sN (oEq R R zS))) (LH.cond (t := (r1 == 0)) R (fun hc6 => ?_) (fun hc6 => ?_))))))
  ·replace h := iteT h hc6
   obtain ⟨r7, hr7, h⟩ := bindS h
   refine LH.loneT [(5, .I r7)] [] R (sN (oFaS tf50_2 tk3 ts3 R R R (sN (oLd R tk3 ta3 (sN (oFaS tf50_2 tk3 ts3 R R R (sN (oLd R tk3 ta3 (sN (oCP (args := [.I p0.Seq, .I p1.Seq]) R isF107 R (sbR (sbR sbN)) (q188q hr7) R (sAi R zS))))))))))) (thenN (LH.seqT [(4, .I r7)] [] R (sMi R (sAi R zS)) (LH.ret ?_)))
   obtain rfl := oI h
   exact retE (aT Tryz.results96) (lrT R (lr0 ⟨memN mN, R, prK R, Sub.rfl⟩))
  replace h := iteF h hc6
  refine LH.skip (thenN (LH.seqT [(4, .I r1)] [] R (sMi R (sAi R zS)) (LH.ret ?_)))
  obtain rfl := oI h
  exact retE (aT Tryz.results96) (lrT R (lr0 ⟨memN mN, R, prK R, Sub.rfl⟩))

theorem q248q {F : Nat} {p0 : List Gq3} {p1 : List Int} {r : List Int × Int} (h : q124q F p0 p1 = some r) : LCall Tryz.prog 71 [.lst 3 (List.map Gq3.lv p0), .L p1] (Mem.of []) (.tup [.L r.1, .I r.2]) (Mem.of []) := by
  unfold q124q at h
  refine bodyT Tryz.func71 R (nT Tryz.ntmps71 R) (LH.wk (Wk.eq (el := [(0, .lst 3 (List.map Gq3.lv p0)), (1, .L p1)]) (ml := []) R R R R) (LH.seqT [(0, .lst 3 (List.map Gq3.lv p0)), (1, .L p1)] [] R (sAn R (sAi R zS)) (LH.seq (LH.seqT [(0, .lst 3 (List.map Gq3.lv p0)), (1, .L p1), (14, .bool ((p1.length : Int) != (p0.length : Int)))] [] R (sMl R (sN (oLnL (f := LV.I) te22 R (sMl R (sN (oLnL (f := Gq3.lv) te95 R (sN (oNe R R zS)))))))) (LH.cond (t := ((p1.length : Int) != (p0.length : Int))) R (fun hc1 => ?_) (fun hc1 => ?_))))))
  ·replace h := iteT h hc1
   refine LH.seqT [(4, .nil), (5, .I 1)] [] R (sAn R (sAi R zS)) (LH.ret (thenR ?_))
   obtain rfl := oI h
   exact retE (aT Tryz.results71) (lrT R (lrT R (lr0 ⟨memN mN, R, prK R, (Sub.tup (sbL (sbR sbN)))⟩)))
  replace h := iteF h hc1
  refine LH.skip (thenN (LH.seqT [(0, .lst 3 (List.map Gq3.lv p0)), (1, .L p1), (6, .nil)] [] R (sAn R zS) (LH.seq (LH.seqT [(0, .lst 3 (List.map Gq3.lv p0)), (1, .L p1), (6, .nil), (7, .I 0)] [] R (sAi R zS) (LH.block (LH.wk (Wk.to (el := [(0, .lst 3 (List.map Gq3.lv p0)), (1, .L p1), (6, .L ([] : List Int)), (7, .I 0)]) (ml := []) (eC R (eC R (eL R (eC R eN)))) mN R (prK R)) (LH.loop (fun n e m => ∃ (l2 : List Int) (n3 : Int), q73q F p0 p1 n l2 n3 = some r ∧ e = Env.of [(0, .lst 3 (List.map Gq3.lv p0)), (1, .L p1), (6, .L l2), (7, .I n3)] ∧ m = Mem.of []) F ⟨([] : List Int), 0, h, R, R⟩ ?_)))))))
  clear h
  rintro n e m ⟨l2, n3, h, rfl, rfl⟩
  rcases n with _ | n
  · cases (show Option.none = some _ from h)
  obtain ⟨rec1, hrec1⟩ : ∃ f, f = q73q F p0 p1 n := ⟨_, rfl⟩
  replace h : q87q F p0 p1 rec1 l2 n3 = some r := hrec1 ▸ h
  unfold q87q at h
  refine LH.seq (LH.seqT [(0, .lst 3 (List.map Gq3.lv p0)), (1, .L p1), (6, .L l2), (7, .I n3), (18, .bool (decide (n3 < (p0.length : Int))))] [] R (sMi R (sMl R (sN (oLnL (f := Gq3.lv) te95 R (sN (oLt R R zS)))))) (LH.cond (t := (decide (n3 < (p0.length : Int)))) R (fun hc4 => ?_) (fun hc4 => ?_)))
  ·replace h := iteT h hc4
   refine LH.skip (thenN (LH.wk (Wk.eq (el := [(0, .lst 3 (List.map Gq3.lv p0)), (1, .L p1), (6, .L l2), (7, .I n3)]) (ml := []) R R R R) (LH.seq (LH.block (LH.seq ?_)))))
   obtain ⟨r5, hr5, h⟩ := bindS h
   refine LH.seqT [(0, .lst 3 (List.map Gq3.lv p0)), (1, .L p1), (6, .L l2), (7, .I n3), (25, .bool (!r5))] [] R (sMl R (sMl R (sMi R (sN (oCP (args := [.lst 3 (List.map Gq3.lv p0), .L p1, .I n3]) R isF95 R (sbR (sbR (sbR sbN))) (q268q hr5) R (sN (oNot R zS))))))) (LH.cond (t := (!r5)) R (fun hc6 => ?_) (fun hc6 => ?_))
   ·replace h := iteT h hc6
    refine LH.exit (thenX (blockH (thenN (LH.loneT [(0, .lst 3 (List.map Gq3.lv p0)), (1, .L p1), (6, .L l2), (7, .I (i64 (n3 + 1)))] [] R (sMi R (sN (oAdd R R (sAi R zS)))) ?_))))
    exact roundI ⟨l2, (i64 (n3 + 1)), hrec1 ▸ h, R, R⟩ (Wk.eq R R R R)
   replace h := iteF h hc6
   refine LH.skip (thenN (LH.seqT [(0, .lst 3 (List.map Gq3.lv p0)), (1, .L p1), (6, .L l2), (7, .I n3), (8, .I (l2.length : Int))] [] R (sMl R (sN (oLnL (f := LV.I) te22 R (sAi R zS)))) (LH.seq (LH.block (LH.loop (fun n e m => ∃ (n7 : Int), q74q rec1 p0 l2 n3 n n7 = some r ∧ e = Env.of [(0, .lst 3 (List.map Gq3.lv p0)), (1, .L p1), (6, .L l2), (7, .I n3), (8, .I n7)] ∧ m = Mem.of []) F ⟨(l2.length : Int), h, R, R⟩ ?_)))))
   clear h
   rintro n e m ⟨n7, h, rfl, rfl⟩
   rcases n with _ | n
   · cases (show Option.none = some _ from h)
   obtain ⟨rec2, hrec2⟩ : ∃ f, f = q74q rec1 p0 l2 n3 n := ⟨_, rfl⟩
   replace h : q88q rec1 p0 l2 n3 rec2 n7 = some r := hrec2 ▸ h
   unfold q88q at h
   refine LH.seq ?_
   obtain ⟨w9, hv, h⟩ := bindS h
   refine LH.seqJM mixed [] [0, 0, 0, 0, 0, 0, 0, 0, 0, 0, 0, 0, 0, 0, 0, 0, 0, 0] [(0, .lst 3 (List.map Gq3.lv p0)), (1, .L p1), (6, .L l2), (7, .I n3), (8, .I n7), (45, .bool w9)] [] R R (by kernel_rfl) ?_ ?_
   ·refine mMi R (mN0 (oGt R R ⟨R, mMb R ?_⟩))
    by_cases hb10 : (decide (n7 > 0)) = true
    ·replace hv := iteT hv hb10
     refine mT R (cB hb10) (mMl R (mT R (cB hb10) (mMl R (mT R (cB hb10) (mMi R (mT R (cB hb10) (mN0 (oSub R R ⟨R, ?_⟩))))))))
     obtain ⟨x11, hx11, hv⟩ := bindS hv
     refine mT R (cB hb10) (mN0 (oIx (f := LV.I) te22 tk3 ts3 R R okI hx11 R ⟨R, mT R (cB hb10) (mN0 (oLd R tk3 ta3 ⟨R, ?_⟩))⟩))
     obtain ⟨x12, hx12, hv⟩ := bindS hv
     refine mT R (cB hb10) (mN0 (oIx (f := Gq3.lv) te95 tk50 ts50 R R Gq3.ok hx12 R ⟨R, mT R (cB hb10) (mN0 (oLdA R tk50 ta50 ts50 R R ⟨R, mT R (cB hb10) (mMl R (mT R (cB hb10) (mMi R ?_)))⟩))⟩))
     obtain ⟨x13, hx13, hv⟩ := bindS hv
     refine mT R (cB hb10) (mN0 (oIx (f := Gq3.lv) te95 tk50 ts50 R R Gq3.ok hx13 R ⟨R, mT R (cB hb10) (mN0 (oLdA R tk50 ta50 ts50 R R ⟨R, ?_⟩))⟩))
     obtain ⟨r14, hr14, hv⟩ := bindS hv
     refine mT R (cB hb10) (mN0 (oCP (args := [.agg [.I x12.Time, .I x12.Source, .I x12.Seq], .agg [.I x13.Time, .I x13.Source, .I x13.Seq]]) R isF96 R (sbR (sbR sbN)) (q257q hr14) R ⟨R, mT R (cB hb10) (mN0 (oGt R R ⟨R, mN0 (oPkT (cB hb10) (v := (.bool _)) R ⟨R, ?_⟩)⟩))⟩))
     obtain rfl := oI hv
     exact zM
    ·replace hb10 := bF hb10
     replace hv := iteF hv hb10
     refine mF R R hb10 (mF R R hb10 (mF R R hb10 (mF R R hb10 (mF R R hb10 (mF R R hb10 (mF R R hb10 (mF R R hb10 (mF R R hb10 (mF R R hb10 (mF R R hb10 (mF R R hb10 (mF R R hb10 (mF R R hb10 (mN0 (oPkF (cB hb10) (v := (.bool _)) R ⟨R, ?_⟩)))))))))))))))
     obtain rfl := oI hv
     exact zM
   clear hv
   refine LH.cond (t := w9) R (fun hc15 => ?_) (fun hc15 => ?_)
   ·replace h := iteT h hc15
    refine LH.skip (thenN (LH.wk (Wk.eq (el := [(0, .lst 3 (List.map Gq3.lv p0)), (1, .L p1), (6, .L l2), (7, .I n3), (8, .I n7)]) (ml := []) R R R R) (LH.block (LH.loneT [(0, .lst 3 (List.map Gq3.lv p0)), (1, .L p1), (6, .L l2), (7, .I n3), (8, .I (i64 (n7 - 1)))] [] R (sMi R (sN (oSub R R (sAi R zS)))) (blockN ?_)))))
    exact roundI ⟨(i64 (n7 - 1)), hrec2 ▸ h, R, R⟩ (Wk.eq R R R R)
   replace h := iteF h hc15
   refine LH.exit (thenX (roundX (blockH (thenN (LH.seqT [(0, .lst 3 (List.map Gq3.lv p0)), (1, .L p1), (6, .L l2), (7, .I n3), (8, .I n7), (9, .nil)] [] R (sAn R zS) ?_)))))
   obtain ⟨v16, hv16, h⟩ := bindS h
   obtain ⟨v17, hv17, h⟩ := bindS h
   refine LH.seqT [(0, .lst 3 (List.map Gq3.lv p0)), (1, .L p1), (6, .L l2), (7, .I n3), (8, .I n7), (9, .arr 152 (List.length v17))] [(152, .arr 3 1 (List.map LV.I v17))] R (sMn R (sMl R (sMi R (sN (oSl (f := LV.I) te22 tk3 ts3 R R R hv16 (sN (oApN (f := LV.I) (id := 152) R te22 tr3 ts3 R R hv17 R (sAa R zS)))))))) ?_
   obtain ⟨v18, hv18, h⟩ := bindS h
   refine LH.seqT [(0, .lst 3 (List.map Gq3.lv p0)), (1, .L p1), (6, .L l2), (7, .I n3), (8, .I n7), (9, .arr 152 (List.length v18))] [(152, .arr 3 1 (List.map LV.I v18))] R (sMa R (sMi R (sN (oBS (f := LV.I) (ys := [n3]) te22 tr3 ts3 R R R okI (sN (oAp (f := LV.I) te22 tr3 ts3 R R (prN R) R hv18 (sAa R zS))))))) ?_
   obtain ⟨v19, hv19, h⟩ := bindS h
   obtain ⟨v20, hv20, h⟩ := bindS h
   refine LH.seqT [(0, .lst 3 (List.map Gq3.lv p0)), (1, .L p1), (7, .I n3), (9, .L v20)] [] R (sMa R (sMl R (sMi R (sN (oSl (f := LV.I) te22 tk3 ts3 R R R hv19 (sN (oAp (f := LV.I) te22 tr3 ts3 R R (prN R) R hv20 (sAa R (s0 ((Wk.trans (Wk.eq (el := [(0, .lst 3 (List.map Gq3.lv p0)), (1, .L p1), (7, .I n3), (9, .arr 152 (List.length v20))]) (ml := [(152, .arr 3 1 (List.map LV.I v20))]) R R R R) (Wk.trans (Wk.frzL (f := LV.I) (el' := [(0, .lst 3 (List.map Gq3.lv p0)), (1, .L p1), (7, .I n3), (9, .L v20)]) 152 3 1 v20 R R (prN R) (fK R (fK R (fK R (fZ fN))))) (Wk.eq R R R R))))))))))))) (LH.loneT [(0, .lst 3 (List.map Gq3.lv p0)), (1, .L p1), (6, .L v20), (7, .I n3)] [] R (sMl R (sAl R zS)) (blockN (thenN (LH.loneT [(0, .lst 3 (List.map Gq3.lv p0)), (1, .L p1), (6, .L v20), (7, .I (i64 (n3 + 1)))] [] R (sMi R (sN (oAdd R R (sAi R zS)))) ?_))))
   exact roundI ⟨v20, (i64 (n3 + 1)), hrec1 ▸ h, R, R⟩ (Wk.eq R R R R)
  replace h := iteF h hc4
  refine LH.exit (thenX (roundX (blockH (thenN (LH.wk (Wk.eq (el := [(6, .L l2)]) (ml := []) R R R R) (LH.seq (LH.seqT [(6, .L l2), (65, .bool (decide ((l2.length : Int) > 300)))] [] R (sMl R (sN (oLnL (f := LV.I) te22 R (sN (oGt R R zS))))) (LH.cond (t := (decide ((l2.length : Int) > 300))) R (fun hc21 => ?_) (fun hc21 => ?_)))))))))
  ·replace h := iteT h hc21
   refine LH.seqT [(4, .nil), (5, .I 3)] [] R (sAn R (sAi R zS)) (LH.ret (thenR ?_))
   obtain rfl := oI h
   exact retE (aT Tryz.results71) (lrT R (lrT R (lr0 ⟨memN mN, R, prK R, (Sub.tup (sbL (sbR sbN)))⟩)))
  replace h := iteF h hc21
  refine LH.skip (thenN (LH.seqT [(4, .L l2), (5, .I 0)] [] R (sMl R (sAl R (sAi R zS))) (LH.ret ?_)))
  obtain rfl := oI h
  exact retE (aT Tryz.results71) (lrT R (lrT R (lr0 ⟨memN mN, R, prK R, (Sub.tup (sbR (sbR sbN)))⟩)))

theorem q249q {F : Nat} {p0 : List Gq0} {r : List Gq0 × Int} (h : q178q F p0 = some r) : LCall Tryz.prog 35 [.lst 9 (List.map Gq0.lv p0)] (Mem.of []) (.tup [.lst 9 (List.map Gq0.lv r.1), .I r.2]) (Mem.of []) := by
  unfold q178q at h
  refine bodyT Tryz.func35 R (nT Tryz.ntmps35 R) (LH.wk (Wk.eq (el := [(0, .lst 9 (List.map Gq0.lv p0))]) (ml := []) R R R R) (LH.seqT [(0, .lst 9 (List.map Gq0.lv p0))] [] R (sAn R (sAi R zS)) (LH.seqT [(0, .lst 9 (List.map Gq0.lv p0)), (4, .nil)] [] R (sAn R zS) (LH.seqT [(0, .lst 9 (List.map Gq0.lv p0)), (4, .nil), (5, .nil)] [] R (sAn R zS) (LH.seq (LH.seqT [(0, .lst 9 (List.map Gq0.lv p0)), (4, .nil), (5, .nil), (6, .I 0)] [] R (sAi R zS) (LH.block (LH.wk ((Wk.trans (Wk.eq (el := [(0, .lst 9 (List.map Gq0.lv p0)), (4, .nil), (5, .nil), (6, .I 0)]) (ml := []) R R R R) (Wk.trans (Wk.eq (el := [(0, .lst 9 (List.map Gq0.lv p0)), (4, .nil), (5, .nil), (6, .I 0)]) (ml := []) R R R R) (Wk.trans (Wk.ownL (el' := [(0, .lst 9 (List.map Gq0.lv p0)), (4, .arr 143 (List.length ([] : List Gq3))), (5, .nil), (6, .I 0)]) 143 50 3 R R (wK (wO (wK (wK wN))))) (Wk.trans (Wk.eq (el := [(0, .lst 9 (List.map Gq0.lv p0)), (4, .arr 143 (List.length ([] : List Gq3))), (5, .nil), (6, .I 0)]) (ml := [(143, .arr 50 3 (List.map Gq3.lv ([] : List Gq3)))]) R R R R) (Wk.trans (Wk.ownL (el' := [(0, .lst 9 (List.map Gq0.lv p0)), (4, .arr 143 (List.length ([] : List Gq3))), (5, .arr 147 (List.length ([] : List Int))), (6, .I 0)]) 147 3 1 R R (wK (wK (wO (wK wN))))) (Wk.eq (el := [(0, .lst 9 (List.map Gq0.lv p0)), (4, .arr 143 (List.length ([] : List Gq3))), (5, .arr 147 (List.length ([] : List Int))), (6, .I 0)]) (ml := [(143, .arr 50 3 (List.map Gq3.lv ([] : List Gq3))), (147, .arr 3 1 (List.map LV.I ([] : List Int)))]) R R R R))))))) (LH.loop (fun n e m => ∃ (n1 : Int) (l2 : List Gq3) (l3 : List Int), q41q F p0 n n1 l2 l3 = some r ∧ e = Env.of [(0, .lst 9 (List.map Gq0.lv p0)), (4, .arr 143 (List.length l2)), (5, .arr 147 (List.length l3)), (6, .I n1)] ∧ m = Mem.of [(143, .arr 50 3 (List.map Gq3.lv l2)), (147, .arr 3 1 (List.map LV.I l3))]) F ⟨0, ([] : List Gq3), ([] : List Int), h, R, R⟩ ?_)))))))))
  clear h
  rintro n e m ⟨n1, l2, l3, h, rfl, rfl⟩
  rcases n with _ | n
  · cases (show Option.none = some _ from h)
  obtain ⟨rec1, hrec1⟩ : ∃ f, f = q41q F p0 n := ⟨_, rfl⟩
  replace h : q89q F p0 rec1 n1 l2 l3 = some r := hrec1 ▸ h
  unfold q89q at h
  refine LH.seq (LH.seqT [(0, .lst 9 (List.map Gq0.lv p0)), (4, .arr 143 (List.length l2)), (5, .arr 147 (List.length l3)), (6, .I n1), (16, .bool (decide (n1 < (p0.length : Int))))] [(143, .arr 50 3 (List.map Gq3.lv l2)), (147, .arr 3 1 (List.map LV.I l3))] R (sMi R (sMl R (sN (oLnL (f := Gq0.lv) te25 R (sN (oLt R R zS)))))) (LH.cond (t := (decide (n1 < (p0.length : Int)))) R (fun hc4 => ?_) (fun hc4 => ?_)))
  ·replace h := iteT h hc4
   refine LH.skip (thenN (LH.wk (Wk.eq (el := [(0, .lst 9 (List.map Gq0.lv p0)), (4, .arr 143 (List.length l2)), (5, .arr 147 (List.length l3)), (6, .I n1)]) (ml := [(143, .arr 50 3 (List.map Gq3.lv l2)), (147, .arr 3 1 (List.map LV.I l3))]) R R R R) (LH.seq (LH.block (LH.seqT [(0, .lst 9 (List.map Gq0.lv p0)), (4, .arr 143 (List.length l2)), (5, .arr 147 (List.length l3)), (6, .I n1), (7, .I n1)] [(143, .arr 50 3 (List.map Gq3.lv l2)), (147, .arr 3 1 (List.map LV.I l3))] R (sMi R (sAi R zS)) (LH.seq (LH.seqT [(0, .lst 9 (List.map Gq0.lv p0)), (4, .arr 143 (List.length l2)), (5, .arr 147 (List.length l3)), (6, .I n1), (7, .I n1), (8, .I (i64 (n1 - 1)))] [(143, .arr 50 3 (List.map Gq3.lv l2)), (147, .arr 3 1 (List.map LV.I l3))] R (sMi R (sN (oSub R R (sAi R zS)))) (LH.block (LH.loop (fun n e m => ∃ (n5 : Int) (n6 : Int), q54q rec1 F p0 n1 l2 l3 n n5 n6 = some r ∧ e = Env.of [(0, .lst 9 (List.map Gq0.lv p0)), (4, .arr 143 (List.length l2)), (5, .arr 147 (List.length l3)), (6, .I n1), (7, .I n5), (8, .I n6)] ∧ m = Mem.of [(143, .arr 50 3 (List.map Gq3.lv l2)), (147, .arr 3 1 (List.map LV.I l3))]) F ⟨n1, (i64 (n1 - 1)), h, R, R⟩ ?_)))))))))
   clear h
   rintro n e m ⟨n5, n6, h, rfl, rfl⟩
   rcases n with _ | n
   · cases (show Option.none = some _ from h)
   obtain ⟨rec2, hrec2⟩ : ∃ f, f = q54q rec1 F p0 n1 l2 l3 n := ⟨_, rfl⟩
   replace h : q90q rec1 F p0 n1 l2 l3 rec2 n5 n6 = some r := hrec2 ▸ h
   unfold q90q at h
   refine LH.seq (LH.seqT [(0, .lst 9 (List.map Gq0.lv p0)), (4, .arr 143 (List.length l2)), (5, .arr 147 (List.length l3)), (6, .I n1), (7, .I n5), (8, .I n6), (23, .bool (decide (n6 ≥ 0)))] [(143, .arr 50 3 (List.map Gq3.lv l2)), (147, .arr 3 1 (List.map LV.I l3))] R (sMi R (sN (oGe R R zS))) (LH.cond (t := (decide (n6 ≥ 0))) R (fun hc7 => ?_) (fun hc7 => ?_)))
   ·replace h := iteT h hc7
    refine LH.skip (thenN (LH.wk (Wk.eq (el := [(0, .lst 9 (List.map Gq0.lv p0)), (4, .arr 143 (List.length l2)), (5, .arr 147 (List.length l3)), (6, .I n1), (7, .I n5), (8, .I n6)]) (ml := [(143, .arr 50 3 (List.map Gq3.lv l2)), (147, .arr 3 1 (List.map LV.I l3))]) R R R R) (LH.seq (LH.block ?_))))
    obtain ⟨x8, hx8, h⟩ := bindS h
    obtain ⟨x9, hx9, h⟩ := bindS h
    obtain ⟨r10, hr10, h⟩ := bindS h
    refine LH.seqJM mixed [] [0, 0, 0, 0, 0, 0, 0, 0, 0] [(0, .lst 9 (List.map Gq0.lv p0)), (4, .arr 143 (List.length l2)), (5, .arr 147 (List.length l3)), (6, .I n1), (7, .I n5), (8, .I n6), (34, .bool r10)] [(143, .arr 50 3 (List.map Gq3.lv l2)), (147, .arr 3 1 (List.map LV.I l3))] R R (by kernel_rfl) (mMl R (mMi R (mN0 (oIx (f := Gq0.lv) te25 tk52 ts52 R R Gq0.ok hx8 R ⟨R, mN0 (oLdA R tk52 ta52 ts52 R R ⟨R, mMl R (mMi R (mN0 (oIx (f := Gq0.lv) te25 tk52 ts52 R R Gq0.ok hx9 R ⟨R, mN0 (oLdA R tk52 ta52 ts52 R R ⟨R, mN0 (oCP (args := [Gq0.lv x8, Gq0.lv x9]) R isF70 R (sbR (sbR sbN)) (q281q hr10) R ⟨R, zM⟩)⟩)⟩)))⟩)⟩)))) (LH.cond (t := r10) R (fun hc11 => ?_) (fun hc11 => ?_))
    ·replace h := iteT h hc11
     refine LH.loneT [(0, .lst 9 (List.map Gq0.lv p0)), (4, .arr 143 (List.length l2)), (5, .arr 147 (List.length l3)), (6, .I n1), (7, .I n6), (8, .I n6)] [(143, .arr 50 3 (List.map Gq3.lv l2)), (147, .arr 3 1 (List.map LV.I l3))] R (sMi R (sAi R zS)) (blockN (thenN (LH.loneT [(0, .lst 9 (List.map Gq0.lv p0)), (4, .arr 143 (List.length l2)), (5, .arr 147 (List.length l3)), (6, .I n1), (7, .I n6), (8, .I (i64 (n6 - 1)))] [(143, .arr 50 3 (List.map Gq3.lv l2)), (147, .arr 3 1 (List.map LV.I l3))] R (sMi R (sN (oSub R R (sAi R zS)))) ?_)))
     exact roundI ⟨n6, (i64 (n6 - 1)), hrec2 ▸ h, R, R⟩ (Wk.eq R R R R)
    replace h := iteF h hc11
    refine LH.skip (blockN (thenN (LH.loneT [(0, .lst 9 (List.map Gq0.lv p0)), (4, .arr 143 (List.length l2)), (5, .arr 147 (List.length l3)), (6, .I n1), (7, .I n5), (8, .I (i64 (n6 - 1)))] [(143, .arr 50 3 (List.map Gq3.lv l2)), (147, .arr 3 1 (List.map LV.I l3))] R (sMi R (sN (oSub R R (sAi R zS)))) ?_)))
    exact roundI ⟨n5, (i64 (n6 - 1)), hrec2 ▸ h, R, R⟩ (Wk.eq R R R R)
   replace h := iteF h hc7
   refine LH.exit (thenX (roundX (blockH (thenN ?_))))
   obtain ⟨x12, hx12, h⟩ := bindS h
   obtain ⟨v13, hv13, h⟩ := bindS h
   obtain ⟨v14, hv14, h⟩ := bindS h
   refine LH.loneT [(0, .lst 9 (List.map Gq0.lv p0)), (4, .arr 143 (List.length v13)), (5, .arr 147 (List.length v14)), (6, .I n1)] [(143, .arr 50 3 (List.map Gq3.lv v13)), (147, .arr 3 1 (List.map LV.I v14))] R ?_ ?_
   ·exact sMa R (sMl R (sMi R (sN (oIx (f := Gq0.lv) te25 tk52 ts52 R R Gq0.ok hx12 R (sN (oFaS tf52_0 tk50 ts50 R R R (sN (oLdA R tk50 ta50 ts50 R R (sN (oBS (f := Gq3.lv) (ys := [x12.Stamp]) te95 tr50 ts50 R R R Gq3.ok (sN (oAp (f := Gq3.lv) te95 tr50 ts50 R R (prN R) R hv13 (sMa R (sMi R (sN (oBS (f := LV.I) (ys := [n5]) te22 tr3 ts3 R R R okI (sN (oAp (f := LV.I) te22 tr3 ts3 R R (prN R) R hv14 (sAa R (sAa R zS))))))))))))))))))))
   refine blockN (thenN (LH.loneT [(0, .lst 9 (List.map Gq0.lv p0)), (4, .arr 143 (List.length v13)), (5, .arr 147 (List.length v14)), (6, .I (i64 (n1 + 1)))] [(143, .arr 50 3 (List.map Gq3.lv v13)), (147, .arr 3 1 (List.map LV.I v14))] R (sMi R (sN (oAdd R R (sAi R zS)))) ?_))
   exact roundI ⟨(i64 (n1 + 1)), v13, v14, hrec1 ▸ h, R, R⟩ (Wk.eq R R R R)
  replace h := iteF h hc4
  refine LH.exit (thenX (roundX (blockH (thenN (LH.wk ((Wk.trans (Wk.eq (el := [(0, .lst 9 (List.map Gq0.lv p0)), (4, .arr 143 (List.length l2)), (5, .arr 147 (List.length l3))]) (ml := [(143, .arr 50 3 (List.map Gq3.lv l2)), (147, .arr 3 1 (List.map LV.I l3))]) R R R R) (Wk.trans (Wk.frzL (f := Gq3.lv) (el' := [(0, .lst 9 (List.map Gq0.lv p0)), (4, .lst 3 (List.map Gq3.lv l2)), (5, .arr 147 (List.length l3))]) 143 50 3 l2 R R (prN R) (fK R (fZ (fK R fN)))) (Wk.trans (Wk.frzL (f := LV.I) (el' := [(0, .lst 9 (List.map Gq0.lv p0)), (4, .lst 3 (List.map Gq3.lv l2)), (5, .L l3)]) 147 3 1 l3 R R (prN R) (fK R (fK R (fZ fN)))) (Wk.eq (el := [(0, .lst 9 (List.map Gq0.lv p0)), (4, .lst 3 (List.map Gq3.lv l2)), (5, .L l3)]) (ml := []) R R R R))))) ?_)))))
  obtain ⟨r15, hr15, h⟩ := bindS h
  refine LH.seqT [(0, .lst 9 (List.map Gq0.lv p0)), (9, .L r15.1), (10, .I r15.2)] [] R (sMl R (sMl R (sN (oCP (args := [.lst 3 (List.map Gq3.lv l2), .L l3]) R isF71 R (sbR (sbR sbN)) (q248q hr15) R (sMt R (sN (oEx R R (sN (oEx R R (sAl R (sAi R zS))))))))))) (LH.seq (LH.seqT [(0, .lst 9 (List.map Gq0.lv p0)), (9, .L r15.1), (10, .I r15.2), (55, .bool (r15.2 != 0))] [] R (sMi R (sN (oNe R R zS))) (LH.cond (t := (r15.2 != 0)) R (fun hc16 => ?_) (fun hc16 => ?_))))
  ·replace h := iteT h hc16
   refine LH.seqT [(2, .nil), (3, .I r15.2)] [] R (sMi R (sAn R (sAi R zS))) (LH.ret (thenR ?_))
   obtain rfl := oI h
   exact retE (aT Tryz.results35) (lrT R (lrT R (lr0 ⟨memN mN, R, prK R, (Sub.tup (sbL (sbR sbN)))⟩)))
  replace h := iteF h hc16
  refine LH.skip (thenN (LH.seqT [(0, .lst 9 (List.map Gq0.lv p0)), (9, .L r15.1), (11, .nil)] [] R (sAn R zS) (LH.seq (LH.seqT [(0, .lst 9 (List.map Gq0.lv p0)), (9, .L r15.1), (11, .nil), (12, .I 0)] [] R (sAi R zS) (LH.block (LH.wk ((Wk.trans (Wk.eq (el := [(0, .lst 9 (List.map Gq0.lv p0)), (9, .L r15.1), (11, .nil), (12, .I 0)]) (ml := []) R R R R) (Wk.trans (Wk.eq (el := [(0, .lst 9 (List.map Gq0.lv p0)), (9, .L r15.1), (11, .nil), (12, .I 0)]) (ml := []) R R R R) (Wk.trans (Wk.ownL (el' := [(0, .lst 9 (List.map Gq0.lv p0)), (9, .L r15.1), (11, .arr 172 (List.length ([] : List Gq0))), (12, .I 0)]) 172 52 9 R R (wK (wK (wO (wK wN))))) (Wk.eq (el := [(0, .lst 9 (List.map Gq0.lv p0)), (9, .L r15.1), (11, .arr 172 (List.length ([] : List Gq0))), (12, .I 0)]) (ml := [(172, .arr 52 9 (List.map Gq0.lv ([] : List Gq0)))]) R R R R))))) (LH.loop (fun n e m => ∃ (n17 : Int) (l18 : List Gq0), q55q p0 r15 n n17 l18 = some r ∧ e = Env.of [(0, .lst 9 (List.map Gq0.lv p0)), (9, .L r15.1), (11, .arr 172 (List.length l18)), (12, .I n17)] ∧ m = Mem.of [(172, .arr 52 9 (List.map Gq0.lv l18))]) F ⟨0, ([] : List Gq0), h, R, R⟩ ?_)))))))
  clear h
  rintro n e m ⟨n17, l18, h, rfl, rfl⟩
  rcases n with _ | n
  · cases (show Option.none = some _ from h)
  obtain ⟨rec3, hrec3⟩ : ∃ f, f = q55q p0 r15 n := ⟨_, rfl⟩
  replace h : q91q p0 r15 rec3 n17 l18 = some r := hrec3 ▸ h
  unfold q91q at h
  refine LH.seq (LH.seqT [(0, .lst 9 (List.map Gq0.lv p0)), (9, .L r15.1), (11, .arr 172 (List.length l18)), (12, .I n17), (60, .bool (decide (n17 < (r15.1.length : Int))))] [(172, .arr 52 9 (List.map Gq0.lv l18))] R (sMi R (sMl R (sN (oLnL (f := LV.I) te22 R (sN (oLt R R zS)))))) (LH.cond (t := (decide (n17 < (r15.1.length : Int)))) R (fun hc19 => ?_) (fun hc19 => ?_)))
  ·replace h := iteT h hc19
   refine LH.skip (thenN (LH.wk (Wk.eq (el := [(0, .lst 9 (List.map Gq0.lv p0)), (9, .L r15.1), (11, .arr 172 (List.length l18)), (12, .I n17)]) (ml := [(172, .arr 52 9 (List.map Gq0.lv l18))]) R R R R) (LH.seq (LH.block ?_))))
   obtain ⟨x20, hx20, h⟩ := bindS h
   obtain ⟨x21, hx21, h⟩ := bindS h
   obtain ⟨v22, hv22, h⟩ := bindS h
   refine LH.loneT [(0, .lst 9 (List.map Gq0.lv p0)), (9, .L r15.1), (11, .arr 172 (List.length v22)), (12, .I n17)] [(172, .arr 52 9 (List.map Gq0.lv v22))] R (sMa R (sMl R (sMl R (sMi R (sN (oIx (f := LV.I) te22 tk3 ts3 R R okI hx20 R (sN (oLd R tk3 ta3 (sN (oIx (f := Gq0.lv) te25 tk52 ts52 R R Gq0.ok hx21 R (sN (oLdA R tk52 ta52 ts52 R R (sN (oBS (f := Gq0.lv) (ys := [x21]) te25 tr52 ts52 R R R Gq0.ok (sN (oAp (f := Gq0.lv) te25 tr52 ts52 R R (prN R) R hv22 (sAa R zS))))))))))))))))) (blockN (thenN (LH.loneT [(0, .lst 9 (List.map Gq0.lv p0)), (9, .L r15.1), (11, .arr 172 (List.length v22)), (12, .I (i64 (n17 + 1)))] [(172, .arr 52 9 (List.map Gq0.lv v22))] R (sMi R (sN (oAdd R R (sAi R zS)))) ?_)))
   exact roundI ⟨(i64 (n17 + 1)), v22, hrec3 ▸ h, R, R⟩ (Wk.eq R R R R)
  replace h := iteF h hc19
  refine LH.exit (thenX (roundX (blockH (thenN (LH.wk ((Wk.trans (Wk.eq (el := [(11, .arr 172 (List.length l18))]) (ml := [(172, .arr 52 9 (List.map Gq0.lv l18))]) R R R R) (Wk.trans (Wk.frzL (f := Gq0.lv) (el' := [(11, .lst 9 (List.map Gq0.lv l18))]) 172 52 9 l18 R R (prN R) (fZ fN)) (Wk.eq (el := [(11, .lst 9 (List.map Gq0.lv l18))]) (ml := []) R R R R)))) (LH.seqT [(2, .lst 9 (List.map Gq0.lv l18)), (3, .I 0)] [] R (sMl R (sAl R (sAi R zS))) (LH.ret ?_)))))))
  obtain rfl := oI h
  exact retE (aT Tryz.results35) (lrT R (lrT R (lr0 ⟨memN mN, R, prK R, (Sub.tup (sbR (sbR sbN)))⟩)))

theorem q94q {p0 : Int} {p1 : Int} {r : Bool} (h : q11q p0 p1 = some r) : LCall Tryz.prog 78 [.I p0, .I p1] (Mem.of []) (.bool r) (Mem.of []) := by
  unfold q11q at h
  refine bodyT Tryz.func78 R (nT Tryz.ntmps78 R) (LH.wk (Wk.eq (el := [(0, .I p0), (1, .I p1)]) (ml := []) R R R R) (LH.seqT [(0, .I p0), (1, .I p1)] [] R (sAb R zS) (LH.seqT [(4, .bool ((decide (p0 ≥ 0)) && (decide (p0 ≤ p1))))] [] R ?_ ?_)))
  ·refine sMi R (sN (oGe R R (sMb R ?_)))
   by_cases hb2 : (decide (p0 ≥ 0)) = true
   ·exact sT R (cB hb2) (oM (v := (.int _ _)) R (sT R (cB hb2) (oM (v := (.int _ _)) R (sT R (cB hb2) (oLe R R (sN (oPkT (cB hb2) (v := (.bool _)) R (sAb R (s0 (Wk.to (eC (cB (andT hb2)) eN) mN R (prK R)))))))))))
   ·replace hb2 := bF hb2
    exact sF R R hb2 (sF R R hb2 (sF R R hb2 (sN (oPkF (cB hb2) (v := (.bool _)) R (sAb R (s0 (Wk.to (eC (cB (andF hb2)) eN) mN R (prK R))))))))
  refine LH.ret ?_
  obtain rfl := oI h
  exact retE (aT Tryz.results78) (lrT R (lr0 ⟨memN mN, R, prK R, Sub.rfl⟩))

end Go.Proofs.YtdjkbicmkbnjdaaGreat
