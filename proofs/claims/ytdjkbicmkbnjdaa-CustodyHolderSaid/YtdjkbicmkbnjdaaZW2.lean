import Derived.Test.YtdjkbicmkbnjdaaZW1
set_option linter.unusedVariables false
set_option linter.unusedSimpArgs false
set_option maxRecDepth 100000
namespace Go.Proofs.Ytdjkbicmkbnjdaa
open Go.L Go.Sh
set_option maxHeartbeats 4000000 in
theorem custody_step_ok {F : Nat} {p0 : List GBag} {p1 : GBagEvent} {r : List GBag × Int} (h : custody_step F p0 p1 = some r) : LCall Try.prog 39 [.lst 6 (List.map GBag.lv p0), .agg [.I p1.Stamp.Time, .I p1.Stamp.Source, .I p1.Stamp.Seq, .I p1.Kind, .I p1.Bag, .I p1.Seal, .I p1.From, .I p1.To, .L p1.Candidates]] (Mem.of []) (.tup [.lst 6 (List.map GBag.lv r.1), .I r.2]) (Mem.of []) := by
  unfold custody_step at h
  refine bodyT Try.func39 rfl (by rw [Try.ntmps39]; exact Nat.le_of_ble_eq_true rfl) ?_
  refine LH.wk (Wk.eq (el := [(0, .lst 6 (List.map GBag.lv p0)), (1, .agg [.I p1.Stamp.Time, .I p1.Stamp.Source, .I p1.Stamp.Seq, .I p1.Kind, .I p1.Bag, .I p1.Seal, .I p1.From, .I p1.To, .L p1.Candidates])]) (ml := []) rfl rfl rfl rfl) ?_
  refine LH.seqT [(0, .lst 6 (List.map GBag.lv p0)), (3, .sptr [.I p1.Stamp.Time, .I p1.Stamp.Source, .I p1.Stamp.Seq, .I p1.Kind, .I p1.Bag, .I p1.Seal, .I p1.From, .I p1.To, .L p1.Candidates])] [] rfl ?_ ?_
  ·refine sB (oBxR rfl rfl rfl rfl ?_)
   refine sAn rfl ?_
   refine sAi rfl ?_
   exact s0 (Wk.eq rfl rfl rfl rfl)
  obtain ⟨r1, hr1, h⟩ := bindS h
  refine LH.seqT [(0, .lst 6 (List.map GBag.lv p0)), (3, .sptr [.I p1.Stamp.Time, .I p1.Stamp.Source, .I p1.Stamp.Seq, .I p1.Kind, .I p1.Bag, .I p1.Seal, .I p1.From, .I p1.To, .L p1.Candidates]), (6, .I r1.1), (7, .bool r1.2)] [] rfl ?_ ?_
  ·refine sMl rfl ?_
   refine sN (oFaS tf34_2 tk3 ts3 rfl rfl rfl ?_)
   refine sN (oLd rfl tk3 ta3 ?_)
   refine sN (oCP (args := [.lst 6 (List.map GBag.lv p0), .I p1.Bag, .fn 51 []]) rfl isF50 rfl (sbR (sbR (sbR sbN))) (slices_BinarySearchFunc_Bag_Bag_int_ok (p2_f := 51) (p2_c := []) isF51 rfl (fun _ _ _ h => custody_step_1_ok h) hr1) rfl ?_)
   refine sMt rfl ?_
   refine sN (oEx rfl rfl ?_)
   refine sN (oEx rfl rfl ?_)
   refine sAi rfl ?_
   refine sAb rfl ?_
   exact s0 (Wk.eq rfl rfl rfl rfl)
  refine LH.seqT [(0, .lst 6 (List.map GBag.lv p0)), (3, .sptr [.I p1.Stamp.Time, .I p1.Stamp.Source, .I p1.Stamp.Seq, .I p1.Kind, .I p1.Bag, .I p1.Seal, .I p1.From, .I p1.To, .L p1.Candidates]), (6, .I r1.1), (7, .bool r1.2), (8, .arr 123 (List.length ([(custody_condition.mk 2 (FnV.mk 53 [.sptr [.I p1.Stamp.Time, .I p1.Stamp.Source, .I p1.Stamp.Seq, .I p1.Kind, .I p1.Bag, .I p1.Seal, .I p1.From, .I p1.To, .L p1.Candidates]] (custody_step_2 F p1) rfl)), (custody_condition.mk 28 (FnV.mk 55 [.sptr [.I p1.Stamp.Time, .I p1.Stamp.Source, .I p1.Stamp.Seq, .I p1.Kind, .I p1.Bag, .I p1.Seal, .I p1.From, .I p1.To, .L p1.Candidates]] (custody_step_3 p1) rfl))])))] [(123, .arr 87 2 (List.map custody_condition.lv ([(custody_condition.mk 2 (FnV.mk 53 [.sptr [.I p1.Stamp.Time, .I p1.Stamp.Source, .I p1.Stamp.Seq, .I p1.Kind, .I p1.Bag, .I p1.Seal, .I p1.From, .I p1.To, .L p1.Candidates]] (custody_step_2 F p1) rfl)), (custody_condition.mk 28 (FnV.mk 55 [.sptr [.I p1.Stamp.Time, .I p1.Stamp.Source, .I p1.Stamp.Seq, .I p1.Kind, .I p1.Bag, .I p1.Seal, .I p1.From, .I p1.To, .L p1.Candidates]] (custody_step_3 p1) rfl))])))] rfl ?_ ?_
  ·refine sN (oMF (vs := [.sptr [.I p1.Stamp.Time, .I p1.Stamp.Source, .I p1.Stamp.Seq, .I p1.Kind, .I p1.Bag, .I p1.Seal, .I p1.From, .I p1.To, .L p1.Candidates]]) rfl ?_)
   refine sN (oBd (vs := [(0, .I 2), (1, .fn 53 [.sptr [.I p1.Stamp.Time, .I p1.Stamp.Source, .I p1.Stamp.Seq, .I p1.Kind, .I p1.Bag, .I p1.Seal, .I p1.From, .I p1.To, .L p1.Candidates]])]) tu87 tz87 rfl (lf tf87_0 ts27 tk27 rfl rfl rfl (lf tf87_1 ts36 tk36 rfl rfl rfl lf0)) ?_)
   refine sN (oMF (vs := [.sptr [.I p1.Stamp.Time, .I p1.Stamp.Source, .I p1.Stamp.Seq, .I p1.Kind, .I p1.Bag, .I p1.Seal, .I p1.From, .I p1.To, .L p1.Candidates]]) rfl ?_)
   refine sN (oBd (vs := [(0, .I 28), (1, .fn 55 [.sptr [.I p1.Stamp.Time, .I p1.Stamp.Source, .I p1.Stamp.Seq, .I p1.Kind, .I p1.Bag, .I p1.Seal, .I p1.From, .I p1.To, .L p1.Candidates]])]) tu87 tz87 rfl (lf tf87_0 ts27 tk27 rfl rfl rfl (lf tf87_1 ts36 tk36 rfl rfl rfl lf0)) ?_)
   refine sX (ok_bsA (g := custody_condition.lv) (ys := [(custody_condition.mk 2 (FnV.mk 53 [.sptr [.I p1.Stamp.Time, .I p1.Stamp.Source, .I p1.Stamp.Seq, .I p1.Kind, .I p1.Bag, .I p1.Seal, .I p1.From, .I p1.To, .L p1.Candidates]] (custody_step_2 F p1) rfl)), (custody_condition.mk 28 (FnV.mk 55 [.sptr [.I p1.Stamp.Time, .I p1.Stamp.Source, .I p1.Stamp.Seq, .I p1.Kind, .I p1.Bag, .I p1.Seal, .I p1.From, .I p1.To, .L p1.Candidates]] (custody_step_3 p1) rfl))]) (id := 123) te88 tr87 ts87 rfl rfl rfl custody_condition.ok rfl) ?_
   refine sAa rfl ?_
   exact s0 (Wk.eq rfl rfl rfl rfl)
  refine LH.seq ?_
  refine LH.seqT [(0, .lst 6 (List.map GBag.lv p0)), (3, .sptr [.I p1.Stamp.Time, .I p1.Stamp.Source, .I p1.Stamp.Seq, .I p1.Kind, .I p1.Bag, .I p1.Seal, .I p1.From, .I p1.To, .L p1.Candidates]), (6, .I r1.1), (7, .bool r1.2), (8, .arr 123 (List.length ([(custody_condition.mk 2 (FnV.mk 53 [.sptr [.I p1.Stamp.Time, .I p1.Stamp.Source, .I p1.Stamp.Seq, .I p1.Kind, .I p1.Bag, .I p1.Seal, .I p1.From, .I p1.To, .L p1.Candidates]] (custody_step_2 F p1) rfl)), (custody_condition.mk 28 (FnV.mk 55 [.sptr [.I p1.Stamp.Time, .I p1.Stamp.Source, .I p1.Stamp.Seq, .I p1.Kind, .I p1.Bag, .I p1.Seal, .I p1.From, .I p1.To, .L p1.Candidates]] (custody_step_3 p1) rfl))]))), (26, .bool (p1.Kind == 1))] [(123, .arr 87 2 (List.map custody_condition.lv ([(custody_condition.mk 2 (FnV.mk 53 [.sptr [.I p1.Stamp.Time, .I p1.Stamp.Source, .I p1.Stamp.Seq, .I p1.Kind, .I p1.Bag, .I p1.Seal, .I p1.From, .I p1.To, .L p1.Candidates]] (custody_step_2 F p1) rfl)), (custody_condition.mk 28 (FnV.mk 55 [.sptr [.I p1.Stamp.Time, .I p1.Stamp.Source, .I p1.Stamp.Seq, .I p1.Kind, .I p1.Bag, .I p1.Seal, .I p1.From, .I p1.To, .L p1.Candidates]] (custody_step_3 p1) rfl))])))] rfl ?_ ?_
  ·refine sN (oFaS tf34_1 tk3 ts3 rfl rfl rfl ?_)
   refine sN (oLd rfl tk3 ta3 ?_)
   refine sN (oEq rfl rfl ?_)
   exact s0 (Wk.eq rfl rfl rfl rfl)
  refine LH.cond (t := (p1.Kind == 1)) rfl (fun hc2 => ?_) (fun hc2 => ?_)
  ·replace h := iteT h hc2
   obtain ⟨r3, hr3, h⟩ := bindS h
   obtain ⟨v4, hv4, h⟩ := bindS h
   refine LH.loneT [(0, .lst 6 (List.map GBag.lv p0)), (3, .sptr [.I p1.Stamp.Time, .I p1.Stamp.Source, .I p1.Stamp.Seq, .I p1.Kind, .I p1.Bag, .I p1.Seal, .I p1.From, .I p1.To, .L p1.Candidates]), (6, .I r1.1), (8, .lst 2 (List.map custody_condition.lv v4))] [] rfl ?_ ?_
   ·refine sMa rfl ?_
    refine sMl rfl ?_
    refine sN (oLdA rfl tk34 ta34 ts34 rfl rfl ?_)
    refine sMb rfl ?_
    refine sN (oCP (args := [.lst 6 (List.map GBag.lv p0), .agg [.I p1.Stamp.Time, .I p1.Stamp.Source, .I p1.Stamp.Seq, .I p1.Kind, .I p1.Bag, .I p1.Seal, .I p1.From, .I p1.To, .L p1.Candidates], .bool r1.2]) rfl isF56 rfl (sbR (sbR (sbR sbN))) (custody_newConditions_ok hr3) rfl ?_)
    refine sN (oAp (f := custody_condition.lv) te88 tr87 ts87 rfl rfl (prN rfl) rfl hv4 ?_)
    refine sAa rfl ?_
    exact s0 ((Wk.trans (Wk.eq (el := [(0, .lst 6 (List.map GBag.lv p0)), (3, .sptr [.I p1.Stamp.Time, .I p1.Stamp.Source, .I p1.Stamp.Seq, .I p1.Kind, .I p1.Bag, .I p1.Seal, .I p1.From, .I p1.To, .L p1.Candidates]), (6, .I r1.1), (8, .arr 123 (List.length v4))]) (ml := [(123, .arr 87 2 (List.map custody_condition.lv v4))]) rfl rfl rfl rfl) (Wk.trans (Wk.frzL (f := custody_condition.lv) (el' := [(0, .lst 6 (List.map GBag.lv p0)), (3, .sptr [.I p1.Stamp.Time, .I p1.Stamp.Source, .I p1.Stamp.Seq, .I p1.Kind, .I p1.Bag, .I p1.Seal, .I p1.From, .I p1.To, .L p1.Candidates]), (6, .I r1.1), (8, .lst 2 (List.map custody_condition.lv v4))]) 123 87 2 v4 rfl rfl (prN rfl) (fK rfl (fK rfl (fK rfl (fZ fN))))) (Wk.eq rfl rfl rfl rfl))))
   refine thenN ?_
   refine LH.seq ?_
   obtain ⟨r5, hr5, h⟩ := bindS h
   refine LH.seqT [(0, .lst 6 (List.map GBag.lv p0)), (3, .sptr [.I p1.Stamp.Time, .I p1.Stamp.Source, .I p1.Stamp.Seq, .I p1.Kind, .I p1.Bag, .I p1.Seal, .I p1.From, .I p1.To, .L p1.Candidates]), (6, .I r1.1), (9, .I r5)] [] rfl ?_ ?_
   ·refine sMl rfl ?_
    refine sN (oCP (args := [.lst 2 (List.map custody_condition.lv v4)]) rfl isF58 rfl (sbR sbN) (custody_first_ok (fnA hv4 (fnC ⟨isF53, fun _ h => custody_step_2_ok h⟩ (fnC ⟨isF55, fun _ h => custody_step_3_ok h⟩ fnN)) (custody_newConditions_fn hr3)) hr5) rfl ?_)
    refine sAi rfl ?_
    exact s0 (Wk.eq rfl rfl rfl rfl)
   refine LH.seqT [(0, .lst 6 (List.map GBag.lv p0)), (3, .sptr [.I p1.Stamp.Time, .I p1.Stamp.Source, .I p1.Stamp.Seq, .I p1.Kind, .I p1.Bag, .I p1.Seal, .I p1.From, .I p1.To, .L p1.Candidates]), (6, .I r1.1), (9, .I r5), (43, .bool (r5 != 0))] [] rfl ?_ ?_
   ·refine sMi rfl ?_
    refine sN (oNe rfl rfl ?_)
    exact s0 (Wk.eq rfl rfl rfl rfl)
   refine LH.cond (t := (r5 != 0)) rfl (fun hc6 => ?_) (fun hc6 => ?_)
   ·replace h := iteT h hc6
    refine LH.seqT [(4, .nil), (5, .I r5)] [] rfl ?_ ?_
    ·refine sMi rfl ?_
     refine sAn rfl ?_
     refine sAi rfl ?_
     exact s0 (Wk.eq rfl rfl rfl rfl)
    refine LH.ret ?_
    refine thenR ?_
    obtain rfl := Option.some.inj h
    exact retE (congrArg Array.toList Try.results39) (lrT rfl (lrT rfl (lr0 ⟨memN mN, rfl, prK rfl, (Sub.tup (sbL (sbR sbN)))⟩)))
   replace h := iteF h hc6
   refine LH.skip ?_
   refine thenN ?_
   obtain ⟨r7, hr7, h⟩ := bindS h
   refine LH.seqT [(3, .sptr [.I p1.Stamp.Time, .I p1.Stamp.Source, .I p1.Stamp.Seq, .I p1.Kind, .I p1.Bag, .I p1.Seal, .I p1.From, .I p1.To, .L p1.Candidates]), (6, .I r1.1), (10, .arr 8 (List.length r7))] [(8, .nest 46 6 [(3, 3, 1)] (List.map GBag.lv r7))] rfl ?_ ?_
   ·refine sMl rfl ?_
    refine sN (oCM (args := [.lst 6 (List.map GBag.lv p0)]) (ml := []) (ml' := [(8, .nest 46 6 [(3, 3, 1)] (List.map GBag.lv r7))]) rfl isF59 rfl (sbR sbN) (custody_cloneBags_ok hr7) mN (newF rfl newN) rfl ?_)
    refine sAa rfl ?_
    exact s0 (Wk.eq rfl rfl rfl rfl)
   refine LH.seq ?_
   refine LH.seqT [(3, .sptr [.I p1.Stamp.Time, .I p1.Stamp.Source, .I p1.Stamp.Seq, .I p1.Kind, .I p1.Bag, .I p1.Seal, .I p1.From, .I p1.To, .L p1.Candidates]), (6, .I r1.1), (10, .arr 8 (List.length r7)), (48, .I p1.Kind)] [(8, .nest 46 6 [(3, 3, 1)] (List.map GBag.lv r7))] rfl ?_ ?_
   ·refine sN (oFaS tf34_1 tk3 ts3 rfl rfl rfl ?_)
    refine sN (oLd rfl tk3 ta3 ?_)
    exact s0 (Wk.eq rfl rfl rfl rfl)
   refine LH.block ?_
   refine LH.seqT [(3, .sptr [.I p1.Stamp.Time, .I p1.Stamp.Source, .I p1.Stamp.Seq, .I p1.Kind, .I p1.Bag, .I p1.Seal, .I p1.From, .I p1.To, .L p1.Candidates]), (6, .I r1.1), (10, .arr 8 (List.length r7)), (48, .I p1.Kind), (49, .bool (p1.Kind == 1))] [(8, .nest 46 6 [(3, 3, 1)] (List.map GBag.lv r7))] rfl ?_ ?_
   ·refine sN (oEq rfl rfl ?_)
    refine sAb rfl ?_
    exact s0 (Wk.eq rfl rfl rfl rfl)
   refine LH.cond (t := (p1.Kind == 1)) rfl (fun hc8 => ?_) (fun hc8 => ?_)
   ·replace h := iteT h hc8
    obtain ⟨v9, hv9, h⟩ := bindS h
    refine LH.seqJM mixed [] [0, 0, 0, 0, 0, 0, 0, 0, 0, 0, 0, 2, 100111] [(6, .I r1.1), (10, .arr 8 (List.length r7)), (11, .sptr [.I p1.Bag, .I p1.From, .bool false, .L [p1.Seal], .L v9, .nil])] [(8, .nest 46 6 [(3, 3, 1)] (List.map GBag.lv r7))] rfl rfl (by kernel_rfl) ?_ ?_
    ·refine mN0 (oFaS tf34_2 tk3 ts3 rfl rfl rfl ⟨rfl, ?_⟩)
     refine mN0 (oLd rfl tk3 ta3 ⟨rfl, ?_⟩)
     refine mN0 (oFaS tf34_4 tk3 ts3 rfl rfl rfl ⟨rfl, ?_⟩)
     refine mN0 (oLd rfl tk3 ta3 ⟨rfl, ?_⟩)
     refine mN0 (oFaS tf34_3 tk3 ts3 rfl rfl rfl ⟨rfl, ?_⟩)
     refine mN0 (oLd rfl tk3 ta3 ⟨rfl, ?_⟩)
     refine mN0 (oBS (f := LV.I) (ys := [p1.Seal]) te22 tr3 ts3 rfl rfl rfl okI ⟨rfl, ?_⟩)
     refine mN0 (oFaS tf34_6 tk22 ts22 rfl rfl rfl ⟨rfl, ?_⟩)
     refine mN0 (oLd rfl tk22 ta22 ⟨rfl, ?_⟩)
     refine mN0 (oCP (args := [.L p1.Candidates]) rfl isF34 rfl (sbR sbN) (LCall.frz (clone_ok (g := LV.I) cloneW34 rfl 160 hv9) rfl) rfl ⟨rfl, ?_⟩)
     refine mN0 (oBd (vs := [(0, .I p1.Bag), (1, .I p1.From), (3, .L [p1.Seal]), (4, .L v9)]) tu46 tz46 rfl (lf tf46_0 ts3 tk3 rfl rfl rfl (lf tf46_1 ts3 tk3 rfl rfl rfl (lf tf46_3 ts22 tk22 rfl rfl rfl (lf tf46_4 ts22 tk22 rfl rfl rfl lf0)))) ⟨rfl, ?_⟩)
     refine mN2 (oAl (id := 111) rfl tz46 rfl rfl ?_)
     refine mS rfl rfl rfl (fun m0 hm0 K0 hK0 => oSt rfl rfl rfl tk46 ts46 hm0 rfl rfl hK0) ?_
     exact m0 ((Wk.trans (Wk.eq (el := [(6, .I r1.1), (10, .arr 8 (List.length r7)), (11, .ptr 111 0)]) (ml := [(8, .nest 46 6 [(3, 3, 1)] (List.map GBag.lv r7)), (111, .box [.I p1.Bag, .I p1.From, .bool false, .L [p1.Seal], .L v9, .nil])]) rfl rfl rfl rfl) (Wk.trans (Wk.frzB 111 [.I p1.Bag, .I p1.From, .bool false, .L [p1.Seal], .L v9, .nil] rfl rfl rfl (prN rfl)) (Wk.eq rfl rfl rfl rfl))))
    obtain ⟨v10, hv10, h⟩ := bindS h
    refine LH.loneT [(10, .lst 6 (List.map GBag.lv v10))] [] rfl ?_ ?_
    ·refine sMa rfl ?_
     refine sMi rfl ?_
     refine sN (oLdA rfl tk46 ta46 ts46 rfl rfl ?_)
     refine sX (ok_bsAn (f := GBag.lv) (ys := [(GBag.mk p1.Bag p1.From false [p1.Seal] v9 [])]) (id := 165) te39 tr46 ts46 rfl rfl rfl (okC rfl rfl rfl okN) (sbS (Sub.agg (sbR (sbR (sbR (sbR (sbR (sbL sbN))))))) sbN) GBag.ok rfl rfl) ?_
     refine SOps.wk (Wk.eq (el := [(62, .arr 8 (List.length r7)), (63, .I r1.1), (65, .arr 165 (List.length ([(GBag.mk p1.Bag p1.From false [p1.Seal] v9 [])])))]) (ml := [(8, .nest 46 6 [(3, 3, 1)] (List.map GBag.lv r7)), (165, .arr 46 6 (List.map GBag.lv ([(GBag.mk p1.Bag p1.From false [p1.Seal] v9 [])])))]) rfl rfl rfl rfl) ?_
     refine SOps.wk (Wk.trans (Wk.unnest (f := GBag.lv) 8 46 6 [(3, 3, 1)] r7 rfl GBag.ok) (Wk.eq (el := [(62, .arr 8 (List.length r7)), (63, .I r1.1), (65, .arr 165 (List.length ([(GBag.mk p1.Bag p1.From false [p1.Seal] v9 [])])))]) (ml := [(8, .arr 46 6 (List.map GBag.lv r7)), (165, .arr 46 6 (List.map GBag.lv ([(GBag.mk p1.Bag p1.From false [p1.Seal] v9 [])])))]) rfl rfl rfl rfl)) ?_
     refine sTake (ok_insert (g := GBag.lv) (xs := r7) (z0 := (GBag.mk p1.Bag p1.From false [p1.Seal] v9 [])) isF60 insW60 rfl rfl rfl rfl rfl (by decide) (prN rfl) (HB.of rfl) hv10) ?_
     refine sAa rfl ?_
     exact s0 ((Wk.trans (Wk.eq (el := [(10, .arr 8 (List.length v10))]) (ml := [(8, .arr 46 6 (List.map GBag.lv v10))]) rfl rfl rfl rfl) (Wk.trans (Wk.frzL (f := GBag.lv) (el' := [(10, .lst 6 (List.map GBag.lv v10))]) 8 46 6 v10 rfl rfl (prN rfl) (fZ fN)) (Wk.eq rfl rfl rfl rfl))))
    refine blockN ?_
    refine thenN ?_
    refine LH.seqT [(4, .lst 6 (List.map GBag.lv v10)), (5, .I 0)] [] rfl ?_ ?_
    ·refine sMl rfl ?_
     refine sAl rfl ?_
     refine sAi rfl ?_
     exact s0 (Wk.eq rfl rfl rfl rfl)
    refine LH.ret ?_
    obtain rfl := Option.some.inj h
    exact retE (congrArg Array.toList Try.results39) (lrT rfl (lrT rfl (lr0 ⟨memN mN, rfl, prK rfl, (Sub.tup (sbR (sbR sbN)))⟩)))
   replace h := iteF h hc8
   refine LH.seqT [(3, .sptr [.I p1.Stamp.Time, .I p1.Stamp.Source, .I p1.Stamp.Seq, .I p1.Kind, .I p1.Bag, .I p1.Seal, .I p1.From, .I p1.To, .L p1.Candidates]), (6, .I r1.1), (10, .arr 8 (List.length r7)), (48, .I p1.Kind), (67, .bool (p1.Kind == 2))] [(8, .nest 46 6 [(3, 3, 1)] (List.map GBag.lv r7))] rfl ?_ ?_
   ·refine sN (oEq rfl rfl ?_)
    refine sAb rfl ?_
    exact s0 (Wk.eq rfl rfl rfl rfl)
   refine LH.cond (t := (p1.Kind == 2)) rfl (fun hc11 => ?_) (fun hc11 => ?_)
   ·replace h := iteT h hc11
    obtain ⟨x12, hx12, h⟩ := bindS h
    refine LH.loneT [(10, .lst 6 (List.map GBag.lv (r7.set (r1.1).toNat (GBag.mk x12.Bag p1.To x12.Open x12.Seals x12.Packed x12.Found))))] [] rfl ?_ ?_
    ·refine sMa rfl ?_
     refine sMi rfl ?_
     refine sN (oFaS tf34_5 tk3 ts3 rfl rfl rfl ?_)
     refine sN (oLd rfl tk3 ta3 ?_)
     refine sX ((ok_ixFo (f := GBag.lv) (xs := r7) (cs := [.I x12.Bag, .I x12.Holder, .bool x12.Open, .L x12.Seals, .L x12.Packed, .L x12.Found]) te39 tk46 ts46 rfl rfl rfl rfl hx12 rfl).ok) ?_
     refine sX ((ok_faN tf46_1 tk3 ts3 rfl rfl (by simp) (focAt hx12)).ok) ?_
     refine sX_ ((ok_s1F (ls := List.map GBag.lv r7) (cs := [.I x12.Bag, .I x12.Holder, .bool x12.Open, .L x12.Seals, .L x12.Packed, .L x12.Found]) (cs' := [.I x12.Bag, .I p1.To, .bool x12.Open, .L x12.Seals, .L x12.Packed, .L x12.Found]) rfl rfl (by simp) (focAt hx12) rfl rfl rfl rfl rfl tk3 ts3 rfl).ok) ?_
     exact s0 ((Wk.trans (Wk.to (el := [(10, .arr 8 (List.length (r7.set (r1.1).toNat (GBag.mk x12.Bag p1.To x12.Open x12.Seals x12.Packed x12.Found))))]) (ml := [(8, .nest 46 6 [(3, 3, 1)] (List.map GBag.lv (r7.set (r1.1).toNat (GBag.mk x12.Bag p1.To x12.Open x12.Seals x12.Packed x12.Found))))]) (eC (congrArg (LV.arr 8) (by simp)) eN) (mC (unfN rfl rfl) mN) rfl (prK rfl)) (Wk.trans (Wk.frzNL (f := GBag.lv) (el' := [(10, .lst 6 (List.map GBag.lv (r7.set (r1.1).toNat (GBag.mk x12.Bag p1.To x12.Open x12.Seals x12.Packed x12.Found))))]) 8 46 6 [(3, 3, 1)] (r7.set (r1.1).toNat (GBag.mk x12.Bag p1.To x12.Open x12.Seals x12.Packed x12.Found)) rfl GBag.ok rfl (prN rfl) (fZ fN)) (Wk.eq rfl rfl rfl rfl))))
    refine blockN ?_
    refine thenN ?_
    refine LH.seqT [(4, .lst 6 (List.map GBag.lv (r7.set (r1.1).toNat (GBag.mk x12.Bag p1.To x12.Open x12.Seals x12.Packed x12.Found)))), (5, .I 0)] [] rfl ?_ ?_
    ·refine sMl rfl ?_
     refine sAl rfl ?_
     refine sAi rfl ?_
     exact s0 (Wk.eq rfl rfl rfl rfl)
    refine LH.ret ?_
    obtain rfl := Option.some.inj h
    exact retE (congrArg Array.toList Try.results39) (lrT rfl (lrT rfl (lr0 ⟨memN mN, rfl, prK rfl, (Sub.tup (sbR (sbR sbN)))⟩)))
   replace h := iteF h hc11
   refine LH.seqT [(3, .sptr [.I p1.Stamp.Time, .I p1.Stamp.Source, .I p1.Stamp.Seq, .I p1.Kind, .I p1.Bag, .I p1.Seal, .I p1.From, .I p1.To, .L p1.Candidates]), (6, .I r1.1), (10, .arr 8 (List.length r7)), (48, .I p1.Kind), (75, .bool (p1.Kind == 3))] [(8, .nest 46 6 [(3, 3, 1)] (List.map GBag.lv r7))] rfl ?_ ?_
   ·refine sN (oEq rfl rfl ?_)
    refine sAb rfl ?_
    exact s0 (Wk.eq rfl rfl rfl rfl)
   refine LH.cond (t := (p1.Kind == 3)) rfl (fun hc13 => ?_) (fun hc13 => ?_)
   ·replace h := iteT h hc13
    obtain ⟨x14, hx14, h⟩ := bindS h
    refine LH.seqT [(3, .sptr [.I p1.Stamp.Time, .I p1.Stamp.Source, .I p1.Stamp.Seq, .I p1.Kind, .I p1.Bag, .I p1.Seal, .I p1.From, .I p1.To, .L p1.Candidates]), (6, .I r1.1), (10, .arr 8 (List.length (r7.set (r1.1).toNat (GBag.mk x14.Bag x14.Holder true x14.Seals x14.Packed x14.Found))))] [(8, .nest 46 6 [(3, 3, 1)] (List.map GBag.lv (r7.set (r1.1).toNat (GBag.mk x14.Bag x14.Holder true x14.Seals x14.Packed x14.Found))))] rfl ?_ ?_
    ·refine sMa rfl ?_
     refine sMi rfl ?_
     refine sX ((ok_ixFo (f := GBag.lv) (xs := r7) (cs := [.I x14.Bag, .I x14.Holder, .bool x14.Open, .L x14.Seals, .L x14.Packed, .L x14.Found]) te39 tk46 ts46 rfl rfl rfl rfl hx14 rfl).ok) ?_
     refine sX ((ok_faN tf46_2 tk4 ts4 rfl rfl (by simp) (focAt hx14)).ok) ?_
     refine sX_ ((ok_s1F (ls := List.map GBag.lv r7) (cs := [.I x14.Bag, .I x14.Holder, .bool x14.Open, .L x14.Seals, .L x14.Packed, .L x14.Found]) (cs' := [.I x14.Bag, .I x14.Holder, .bool true, .L x14.Seals, .L x14.Packed, .L x14.Found]) rfl rfl (by simp) (focAt hx14) rfl rfl rfl rfl rfl tk4 ts4 rfl).ok) ?_
     exact s0 (Wk.to (eC rfl (eC rfl (eC (congrArg (LV.arr 8) (by simp)) eN))) (mC (unfN rfl rfl) mN) rfl (prK rfl))
    obtain ⟨v15, hv15, h⟩ := bindS h
    obtain ⟨x16, hx16, h⟩ := bindS h
    refine LH.loneT [(10, .lst 6 (List.map GBag.lv ((r7.set (r1.1).toNat (GBag.mk x14.Bag x14.Holder true x14.Seals x14.Packed x14.Found)).set (r1.1).toNat (GBag.mk x16.Bag x16.Holder x16.Open x16.Seals x16.Packed v15))))] [] rfl ?_ ?_
    ·refine sMa rfl ?_
     refine sMi rfl ?_
     refine sN (oFaS tf34_6 tk22 ts22 rfl rfl rfl ?_)
     refine sN (oLd rfl tk22 ta22 ?_)
     refine sN (oCP (args := [.L p1.Candidates]) rfl isF34 rfl (sbR sbN) (LCall.frz (clone_ok (g := LV.I) cloneW34 rfl 185 hv15) rfl) rfl ?_)
     refine sX ((ok_ixFo (f := GBag.lv) (xs := (r7.set (r1.1).toNat (GBag.mk x14.Bag x14.Holder true x14.Seals x14.Packed x14.Found))) (cs := [.I x16.Bag, .I x16.Holder, .bool x16.Open, .L x16.Seals, .L x16.Packed, .L x16.Found]) te39 tk46 ts46 rfl rfl rfl rfl hx16 rfl).ok) ?_
     refine sX ((ok_faN tf46_5 tk22 ts22 rfl rfl (by simp) (focAt hx16)).ok) ?_
     refine sX_ ((ok_s1F (ls := List.map GBag.lv (r7.set (r1.1).toNat (GBag.mk x14.Bag x14.Holder true x14.Seals x14.Packed x14.Found))) (cs := [.I x16.Bag, .I x16.Holder, .bool x16.Open, .L x16.Seals, .L x16.Packed, .L x16.Found]) (cs' := [.I x16.Bag, .I x16.Holder, .bool x16.Open, .L x16.Seals, .L x16.Packed, .L v15]) rfl rfl (by simp) (focAt hx16) rfl rfl rfl rfl rfl tk22 ts22 rfl).ok) ?_
     exact s0 ((Wk.trans (Wk.to (el := [(10, .arr 8 (List.length ((r7.set (r1.1).toNat (GBag.mk x14.Bag x14.Holder true x14.Seals x14.Packed x14.Found)).set (r1.1).toNat (GBag.mk x16.Bag x16.Holder x16.Open x16.Seals x16.Packed v15))))]) (ml := [(8, .nest 46 6 [(3, 3, 1)] (List.map GBag.lv ((r7.set (r1.1).toNat (GBag.mk x14.Bag x14.Holder true x14.Seals x14.Packed x14.Found)).set (r1.1).toNat (GBag.mk x16.Bag x16.Holder x16.Open x16.Seals x16.Packed v15))))]) (eC (congrArg (LV.arr 8) (by simp)) eN) (mC (unfN rfl rfl) mN) rfl (prK rfl)) (Wk.trans (Wk.frzNL (f := GBag.lv) (el' := [(10, .lst 6 (List.map GBag.lv ((r7.set (r1.1).toNat (GBag.mk x14.Bag x14.Holder true x14.Seals x14.Packed x14.Found)).set (r1.1).toNat (GBag.mk x16.Bag x16.Holder x16.Open x16.Seals x16.Packed v15))))]) 8 46 6 [(3, 3, 1)] ((r7.set (r1.1).toNat (GBag.mk x14.Bag x14.Holder true x14.Seals x14.Packed x14.Found)).set (r1.1).toNat (GBag.mk x16.Bag x16.Holder x16.Open x16.Seals x16.Packed v15)) rfl GBag.ok rfl (prN rfl) (fZ fN)) (Wk.eq rfl rfl rfl rfl))))
    refine blockN ?_
    refine thenN ?_
    refine LH.seqT [(4, .lst 6 (List.map GBag.lv ((r7.set (r1.1).toNat (GBag.mk x14.Bag x14.Holder true x14.Seals x14.Packed x14.Found)).set (r1.1).toNat (GBag.mk x16.Bag x16.Holder x16.Open x16.Seals x16.Packed v15)))), (5, .I 0)] [] rfl ?_ ?_
    ·refine sMl rfl ?_
     refine sAl rfl ?_
     refine sAi rfl ?_
     exact s0 (Wk.eq rfl rfl rfl rfl)
    refine LH.ret ?_
    obtain rfl := Option.some.inj h
    exact retE (congrArg Array.toList Try.results39) (lrT rfl (lrT rfl (lr0 ⟨memN mN, rfl, prK rfl, (Sub.tup (sbR (sbR sbN)))⟩)))
   replace h := iteF h hc13
   refine LH.seqT [(3, .sptr [.I p1.Stamp.Time, .I p1.Stamp.Source, .I p1.Stamp.Seq, .I p1.Kind, .I p1.Bag, .I p1.Seal, .I p1.From, .I p1.To, .L p1.Candidates]), (6, .I r1.1), (10, .arr 8 (List.length r7)), (88, .bool (p1.Kind == 4))] [(8, .nest 46 6 [(3, 3, 1)] (List.map GBag.lv r7))] rfl ?_ ?_
   ·refine sN (oEq rfl rfl ?_)
    refine sAb rfl ?_
    exact s0 (Wk.eq rfl rfl rfl rfl)
   refine LH.cond (t := (p1.Kind == 4)) rfl (fun hc17 => ?_) (fun hc17 => ?_)
   ·replace h := iteT h hc17
    obtain ⟨x18, hx18, h⟩ := bindS h
    obtain ⟨v19, hv19, h⟩ := bindS h
    refine LH.loneTM mixed [] [0, 0, 0, 0, 3, 3, 3, 0, 0, 0, 2, 3, 3, 3] [(10, .lst 6 (List.map GBag.lv (r7.set (r1.1).toNat (GBag.mk x18.Bag x18.Holder x18.Open v19 x18.Packed x18.Found))))] [] rfl rfl (by kernel_rfl) ?_ ?_
    ·refine mN0 (oM (v := (.arr _ _)) rfl ⟨rfl, ?_⟩)
     refine mN0 (oM (v := (.int _ _)) rfl ⟨rfl, ?_⟩)
     refine mN0 (oM (v := (.arr _ _)) rfl ⟨rfl, ?_⟩)
     refine mN0 (oM (v := (.int _ _)) rfl ⟨rfl, ?_⟩)
     refine mX (ok_ixFo (f := GBag.lv) (xs := r7) (cs := [.I x18.Bag, .I x18.Holder, .bool x18.Open, .L x18.Seals, .L x18.Packed, .L x18.Found]) te39 tk46 ts46 rfl rfl rfl rfl hx18 rfl) ?_
     refine mX (ok_faN tf46_3 tk22 ts22 rfl rfl (by simp) (focAt hx18)) ?_
     refine mX (ok_takeF (g := LV.I) (ys := x18.Seals) (ls := List.map GBag.lv r7) (cs := [.I x18.Bag, .I x18.Holder, .bool x18.Open, .L x18.Seals, .L x18.Packed, .L x18.Found]) (id2 := 196) (cs' := [.I x18.Bag, .I x18.Holder, .bool x18.Open, .und, .L x18.Packed, .L x18.Found]) rfl rfl (by simp) (focAt hx18) rfl rfl rfl tk22 ta22 rfl) ?_
     refine mN0 (oFaS tf34_3 tk3 ts3 rfl rfl rfl ⟨rfl, ?_⟩)
     refine mN0 (oLd rfl tk3 ta3 ⟨rfl, ?_⟩)
     refine mN0 (oBS (f := LV.I) (ys := [p1.Seal]) te22 tr3 ts3 rfl rfl rfl okI ⟨rfl, ?_⟩)
     refine mN2 (oAp (f := LV.I) te22 tr3 ts3 rfl rfl (prN rfl) rfl hv19 ?_)
     refine mX (ok_ixG (f := GBag.lv) (xs := r7) te39 tk46 ts46 rfl rfl rfl rfl hx18) ?_
     refine mX (ok_faN tf46_3 tk22 ts22 rfl rfl (by simp) (focAt hx18)) ?_
     refine mX_ (ok_putF (g := LV.I) (ys := v19) (ls := List.map GBag.lv r7) (cs := [.I x18.Bag, .I x18.Holder, .bool x18.Open, .und, .L x18.Packed, .L x18.Found]) (cs' := [.I x18.Bag, .I x18.Holder, .bool x18.Open, .L v19, .L x18.Packed, .L x18.Found]) rfl rfl (by simp) (focAt hx18) rfl rfl rfl rfl rfl (prN rfl) tk22 ts22 rfl) ?_
     exact m0 ((Wk.trans (Wk.to (el := [(10, .arr 8 (List.length (r7.set (r1.1).toNat (GBag.mk x18.Bag x18.Holder x18.Open v19 x18.Packed x18.Found))))]) (ml := [(8, .nest 46 6 [(3, 3, 1)] (List.map GBag.lv (r7.set (r1.1).toNat (GBag.mk x18.Bag x18.Holder x18.Open v19 x18.Packed x18.Found))))]) (eC (congrArg (LV.arr 8) (by simp)) eN) (mC (unfN rfl rfl) mN) rfl (prK rfl)) (Wk.trans (Wk.frzNL (f := GBag.lv) (el' := [(10, .lst 6 (List.map GBag.lv (r7.set (r1.1).toNat (GBag.mk x18.Bag x18.Holder x18.Open v19 x18.Packed x18.Found))))]) 8 46 6 [(3, 3, 1)] (r7.set (r1.1).toNat (GBag.mk x18.Bag x18.Holder x18.Open v19 x18.Packed x18.Found)) rfl GBag.ok rfl (prN rfl) (fZ fN)) (Wk.eq rfl rfl rfl rfl))))
    refine blockN ?_
    refine thenN ?_
    refine LH.seqT [(4, .lst 6 (List.map GBag.lv (r7.set (r1.1).toNat (GBag.mk x18.Bag x18.Holder x18.Open v19 x18.Packed x18.Found)))), (5, .I 0)] [] rfl ?_ ?_
    ·refine sMl rfl ?_
     refine sAl rfl ?_
     refine sAi rfl ?_
     exact s0 (Wk.eq rfl rfl rfl rfl)
    refine LH.ret ?_
    obtain rfl := Option.some.inj h
    exact retE (congrArg Array.toList Try.results39) (lrT rfl (lrT rfl (lr0 ⟨memN mN, rfl, prK rfl, (Sub.tup (sbR (sbR sbN)))⟩)))
   replace h := iteF h hc17
   refine LH.skip ?_
   refine blockN ?_
   refine thenN ?_
   refine LH.wk ((Wk.trans (Wk.eq (el := [(10, .arr 8 (List.length r7))]) (ml := [(8, .nest 46 6 [(3, 3, 1)] (List.map GBag.lv r7))]) rfl rfl rfl rfl) (Wk.trans (Wk.frzNL (f := GBag.lv) (el' := [(10, .lst 6 (List.map GBag.lv r7))]) 8 46 6 [(3, 3, 1)] r7 rfl GBag.ok rfl (prN rfl) (fZ fN)) (Wk.eq (el := [(10, .lst 6 (List.map GBag.lv r7))]) (ml := []) rfl rfl rfl rfl)))) ?_
   refine LH.seqT [(4, .lst 6 (List.map GBag.lv r7)), (5, .I 0)] [] rfl ?_ ?_
   ·refine sMl rfl ?_
    refine sAl rfl ?_
    refine sAi rfl ?_
    exact s0 (Wk.eq rfl rfl rfl rfl)
   refine LH.ret ?_
   obtain rfl := Option.some.inj h
   exact retE (congrArg Array.toList Try.results39) (lrT rfl (lrT rfl (lr0 ⟨memN mN, rfl, prK rfl, (Sub.tup (sbR (sbR sbN)))⟩)))
  replace h := iteF h hc2
  obtain ⟨r20, hr20, h⟩ := bindS h
  obtain ⟨v21, hv21, h⟩ := bindS h
  refine LH.loneT [(0, .lst 6 (List.map GBag.lv p0)), (3, .sptr [.I p1.Stamp.Time, .I p1.Stamp.Source, .I p1.Stamp.Seq, .I p1.Kind, .I p1.Bag, .I p1.Seal, .I p1.From, .I p1.To, .L p1.Candidates]), (6, .I r1.1), (8, .lst 2 (List.map custody_condition.lv v21))] [] rfl ?_ ?_
  ·refine sMa rfl ?_
   refine sMl rfl ?_
   refine sN (oLdA rfl tk34 ta34 ts34 rfl rfl ?_)
   refine sMi rfl ?_
   refine sMb rfl ?_
   refine sN (oCP (args := [.lst 6 (List.map GBag.lv p0), .agg [.I p1.Stamp.Time, .I p1.Stamp.Source, .I p1.Stamp.Seq, .I p1.Kind, .I p1.Bag, .I p1.Seal, .I p1.From, .I p1.To, .L p1.Candidates], .I r1.1, .bool r1.2]) rfl isF57 rfl (sbR (sbR (sbR (sbR sbN)))) (custody_oldConditions_ok hr20) rfl ?_)
   refine sN (oAp (f := custody_condition.lv) te88 tr87 ts87 rfl rfl (prN rfl) rfl hv21 ?_)
   refine sAa rfl ?_
   exact s0 ((Wk.trans (Wk.eq (el := [(0, .lst 6 (List.map GBag.lv p0)), (3, .sptr [.I p1.Stamp.Time, .I p1.Stamp.Source, .I p1.Stamp.Seq, .I p1.Kind, .I p1.Bag, .I p1.Seal, .I p1.From, .I p1.To, .L p1.Candidates]), (6, .I r1.1), (8, .arr 123 (List.length v21))]) (ml := [(123, .arr 87 2 (List.map custody_condition.lv v21))]) rfl rfl rfl rfl) (Wk.trans (Wk.frzL (f := custody_condition.lv) (el' := [(0, .lst 6 (List.map GBag.lv p0)), (3, .sptr [.I p1.Stamp.Time, .I p1.Stamp.Source, .I p1.Stamp.Seq, .I p1.Kind, .I p1.Bag, .I p1.Seal, .I p1.From, .I p1.To, .L p1.Candidates]), (6, .I r1.1), (8, .lst 2 (List.map custody_condition.lv v21))]) 123 87 2 v21 rfl rfl (prN rfl) (fK rfl (fK rfl (fK rfl (fZ fN))))) (Wk.eq rfl rfl rfl rfl))))
  refine thenN ?_
  refine LH.seq ?_
  obtain ⟨r22, hr22, h⟩ := bindS h
  refine LH.seqT [(0, .lst 6 (List.map GBag.lv p0)), (3, .sptr [.I p1.Stamp.Time, .I p1.Stamp.Source, .I p1.Stamp.Seq, .I p1.Kind, .I p1.Bag, .I p1.Seal, .I p1.From, .I p1.To, .L p1.Candidates]), (6, .I r1.1), (9, .I r22)] [] rfl ?_ ?_
  ·refine sMl rfl ?_
   refine sN (oCP (args := [.lst 2 (List.map custody_condition.lv v21)]) rfl isF58 rfl (sbR sbN) (custody_first_ok (fnA hv21 (fnC ⟨isF53, fun _ h => custody_step_2_ok h⟩ (fnC ⟨isF55, fun _ h => custody_step_3_ok h⟩ fnN)) (custody_oldConditions_fn hr20)) hr22) rfl ?_)
   refine sAi rfl ?_
   exact s0 (Wk.eq rfl rfl rfl rfl)
  refine LH.seqT [(0, .lst 6 (List.map GBag.lv p0)), (3, .sptr [.I p1.Stamp.Time, .I p1.Stamp.Source, .I p1.Stamp.Seq, .I p1.Kind, .I p1.Bag, .I p1.Seal, .I p1.From, .I p1.To, .L p1.Candidates]), (6, .I r1.1), (9, .I r22), (43, .bool (r22 != 0))] [] rfl ?_ ?_
  ·refine sMi rfl ?_
   refine sN (oNe rfl rfl ?_)
   exact s0 (Wk.eq rfl rfl rfl rfl)
  refine LH.cond (t := (r22 != 0)) rfl (fun hc23 => ?_) (fun hc23 => ?_)
  ·replace h := iteT h hc23
   refine LH.seqT [(4, .nil), (5, .I r22)] [] rfl ?_ ?_
   ·refine sMi rfl ?_
    refine sAn rfl ?_
    refine sAi rfl ?_
    exact s0 (Wk.eq rfl rfl rfl rfl)
   refine LH.ret ?_
   refine thenR ?_
   obtain rfl := Option.some.inj h
   exact retE (congrArg Array.toList Try.results39) (lrT rfl (lrT rfl (lr0 ⟨memN mN, rfl, prK rfl, (Sub.tup (sbL (sbR sbN)))⟩)))
  replace h := iteF h hc23
  refine LH.skip ?_
  refine thenN ?_
  obtain ⟨r24, hr24, h⟩ := bindS h
  refine LH.seqT [(3, .sptr [.I p1.Stamp.Time, .I p1.Stamp.Source, .I p1.Stamp.Seq, .I p1.Kind, .I p1.Bag, .I p1.Seal, .I p1.From, .I p1.To, .L p1.Candidates]), (6, .I r1.1), (10, .arr 8 (List.length r24))] [(8, .nest 46 6 [(3, 3, 1)] (List.map GBag.lv r24))] rfl ?_ ?_
  ·refine sMl rfl ?_
   refine sN (oCM (args := [.lst 6 (List.map GBag.lv p0)]) (ml := []) (ml' := [(8, .nest 46 6 [(3, 3, 1)] (List.map GBag.lv r24))]) rfl isF59 rfl (sbR sbN) (custody_cloneBags_ok hr24) mN (newF rfl newN) rfl ?_)
   refine sAa rfl ?_
   exact s0 (Wk.eq rfl rfl rfl rfl)
  refine LH.seq ?_
  refine LH.seqT [(3, .sptr [.I p1.Stamp.Time, .I p1.Stamp.Source, .I p1.Stamp.Seq, .I p1.Kind, .I p1.Bag, .I p1.Seal, .I p1.From, .I p1.To, .L p1.Candidates]), (6, .I r1.1), (10, .arr 8 (List.length r24)), (48, .I p1.Kind)] [(8, .nest 46 6 [(3, 3, 1)] (List.map GBag.lv r24))] rfl ?_ ?_
  ·refine sN (oFaS tf34_1 tk3 ts3 rfl rfl rfl ?_)
   refine sN (oLd rfl tk3 ta3 ?_)
   exact s0 (Wk.eq rfl rfl rfl rfl)
  refine LH.block ?_
  refine LH.seqT [(3, .sptr [.I p1.Stamp.Time, .I p1.Stamp.Source, .I p1.Stamp.Seq, .I p1.Kind, .I p1.Bag, .I p1.Seal, .I p1.From, .I p1.To, .L p1.Candidates]), (6, .I r1.1), (10, .arr 8 (List.length r24)), (48, .I p1.Kind), (49, .bool (p1.Kind == 1))] [(8, .nest 46 6 [(3, 3, 1)] (List.map GBag.lv r24))] rfl ?_ ?_
  ·refine sN (oEq rfl rfl ?_)
   refine sAb rfl ?_
   exact s0 (Wk.eq rfl rfl rfl rfl)
  refine LH.cond (t := (p1.Kind == 1)) rfl (fun hc25 => ?_) (fun hc25 => ?_)
  ·replace h := iteT h hc25
   obtain ⟨v26, hv26, h⟩ := bindS h
   refine LH.seqJM mixed [] [0, 0, 0, 0, 0, 0, 0, 0, 0, 0, 0, 2, 100111] [(6, .I r1.1), (10, .arr 8 (List.length r24)), (11, .sptr [.I p1.Bag, .I p1.From, .bool false, .L [p1.Seal], .L v26, .nil])] [(8, .nest 46 6 [(3, 3, 1)] (List.map GBag.lv r24))] rfl rfl (by kernel_rfl) ?_ ?_
   ·refine mN0 (oFaS tf34_2 tk3 ts3 rfl rfl rfl ⟨rfl, ?_⟩)
    refine mN0 (oLd rfl tk3 ta3 ⟨rfl, ?_⟩)
    refine mN0 (oFaS tf34_4 tk3 ts3 rfl rfl rfl ⟨rfl, ?_⟩)
    refine mN0 (oLd rfl tk3 ta3 ⟨rfl, ?_⟩)
    refine mN0 (oFaS tf34_3 tk3 ts3 rfl rfl rfl ⟨rfl, ?_⟩)
    refine mN0 (oLd rfl tk3 ta3 ⟨rfl, ?_⟩)
    refine mN0 (oBS (f := LV.I) (ys := [p1.Seal]) te22 tr3 ts3 rfl rfl rfl okI ⟨rfl, ?_⟩)
    refine mN0 (oFaS tf34_6 tk22 ts22 rfl rfl rfl ⟨rfl, ?_⟩)
    refine mN0 (oLd rfl tk22 ta22 ⟨rfl, ?_⟩)
    refine mN0 (oCP (args := [.L p1.Candidates]) rfl isF34 rfl (sbR sbN) (LCall.frz (clone_ok (g := LV.I) cloneW34 rfl 160 hv26) rfl) rfl ⟨rfl, ?_⟩)
    refine mN0 (oBd (vs := [(0, .I p1.Bag), (1, .I p1.From), (3, .L [p1.Seal]), (4, .L v26)]) tu46 tz46 rfl (lf tf46_0 ts3 tk3 rfl rfl rfl (lf tf46_1 ts3 tk3 rfl rfl rfl (lf tf46_3 ts22 tk22 rfl rfl rfl (lf tf46_4 ts22 tk22 rfl rfl rfl lf0)))) ⟨rfl, ?_⟩)
    refine mN2 (oAl (id := 111) rfl tz46 rfl rfl ?_)
    refine mS rfl rfl rfl (fun m0 hm0 K0 hK0 => oSt rfl rfl rfl tk46 ts46 hm0 rfl rfl hK0) ?_
    exact m0 ((Wk.trans (Wk.eq (el := [(6, .I r1.1), (10, .arr 8 (List.length r24)), (11, .ptr 111 0)]) (ml := [(8, .nest 46 6 [(3, 3, 1)] (List.map GBag.lv r24)), (111, .box [.I p1.Bag, .I p1.From, .bool false, .L [p1.Seal], .L v26, .nil])]) rfl rfl rfl rfl) (Wk.trans (Wk.frzB 111 [.I p1.Bag, .I p1.From, .bool false, .L [p1.Seal], .L v26, .nil] rfl rfl rfl (prN rfl)) (Wk.eq rfl rfl rfl rfl))))
   obtain ⟨v27, hv27, h⟩ := bindS h
   refine LH.loneT [(10, .lst 6 (List.map GBag.lv v27))] [] rfl ?_ ?_
   ·refine sMa rfl ?_
    refine sMi rfl ?_
    refine sN (oLdA rfl tk46 ta46 ts46 rfl rfl ?_)
    refine sX (ok_bsAn (f := GBag.lv) (ys := [(GBag.mk p1.Bag p1.From false [p1.Seal] v26 [])]) (id := 165) te39 tr46 ts46 rfl rfl rfl (okC rfl rfl rfl okN) (sbS (Sub.agg (sbR (sbR (sbR (sbR (sbR (sbL sbN))))))) sbN) GBag.ok rfl rfl) ?_
    refine SOps.wk (Wk.eq (el := [(62, .arr 8 (List.length r24)), (63, .I r1.1), (65, .arr 165 (List.length ([(GBag.mk p1.Bag p1.From false [p1.Seal] v26 [])])))]) (ml := [(8, .nest 46 6 [(3, 3, 1)] (List.map GBag.lv r24)), (165, .arr 46 6 (List.map GBag.lv ([(GBag.mk p1.Bag p1.From false [p1.Seal] v26 [])])))]) rfl rfl rfl rfl) ?_
    refine SOps.wk (Wk.trans (Wk.unnest (f := GBag.lv) 8 46 6 [(3, 3, 1)] r24 rfl GBag.ok) (Wk.eq (el := [(62, .arr 8 (List.length r24)), (63, .I r1.1), (65, .arr 165 (List.length ([(GBag.mk p1.Bag p1.From false [p1.Seal] v26 [])])))]) (ml := [(8, .arr 46 6 (List.map GBag.lv r24)), (165, .arr 46 6 (List.map GBag.lv ([(GBag.mk p1.Bag p1.From false [p1.Seal] v26 [])])))]) rfl rfl rfl rfl)) ?_
    refine sTake (ok_insert (g := GBag.lv) (xs := r24) (z0 := (GBag.mk p1.Bag p1.From false [p1.Seal] v26 [])) isF60 insW60 rfl rfl rfl rfl rfl (by decide) (prN rfl) (HB.of rfl) hv27) ?_
    refine sAa rfl ?_
    exact s0 ((Wk.trans (Wk.eq (el := [(10, .arr 8 (List.length v27))]) (ml := [(8, .arr 46 6 (List.map GBag.lv v27))]) rfl rfl rfl rfl) (Wk.trans (Wk.frzL (f := GBag.lv) (el' := [(10, .lst 6 (List.map GBag.lv v27))]) 8 46 6 v27 rfl rfl (prN rfl) (fZ fN)) (Wk.eq rfl rfl rfl rfl))))
   refine blockN ?_
   refine thenN ?_
   refine LH.seqT [(4, .lst 6 (List.map GBag.lv v27)), (5, .I 0)] [] rfl ?_ ?_
   ·refine sMl rfl ?_
    refine sAl rfl ?_
    refine sAi rfl ?_
    exact s0 (Wk.eq rfl rfl rfl rfl)
   refine LH.ret ?_
   obtain rfl := Option.some.inj h
   exact retE (congrArg Array.toList Try.results39) (lrT rfl (lrT rfl (lr0 ⟨memN mN, rfl, prK rfl, (Sub.tup (sbR (sbR sbN)))⟩)))
  replace h := iteF h hc25
  refine LH.seqT [(3, .sptr [.I p1.Stamp.Time, .I p1.Stamp.Source, .I p1.Stamp.Seq, .I p1.Kind, .I p1.Bag, .I p1.Seal, .I p1.From, .I p1.To, .L p1.Candidates]), (6, .I r1.1), (10, .arr 8 (List.length r24)), (48, .I p1.Kind), (67, .bool (p1.Kind == 2))] [(8, .nest 46 6 [(3, 3, 1)] (List.map GBag.lv r24))] rfl ?_ ?_
  ·refine sN (oEq rfl rfl ?_)
   refine sAb rfl ?_
   exact s0 (Wk.eq rfl rfl rfl rfl)
  refine LH.cond (t := (p1.Kind == 2)) rfl (fun hc28 => ?_) (fun hc28 => ?_)
  ·replace h := iteT h hc28
   obtain ⟨x29, hx29, h⟩ := bindS h
   refine LH.loneT [(10, .lst 6 (List.map GBag.lv (r24.set (r1.1).toNat (GBag.mk x29.Bag p1.To x29.Open x29.Seals x29.Packed x29.Found))))] [] rfl ?_ ?_
   ·refine sMa rfl ?_
    refine sMi rfl ?_
    refine sN (oFaS tf34_5 tk3 ts3 rfl rfl rfl ?_)
    refine sN (oLd rfl tk3 ta3 ?_)
    refine sX ((ok_ixFo (f := GBag.lv) (xs := r24) (cs := [.I x29.Bag, .I x29.Holder, .bool x29.Open, .L x29.Seals, .L x29.Packed, .L x29.Found]) te39 tk46 ts46 rfl rfl rfl rfl hx29 rfl).ok) ?_
    refine sX ((ok_faN tf46_1 tk3 ts3 rfl rfl (by simp) (focAt hx29)).ok) ?_
    refine sX_ ((ok_s1F (ls := List.map GBag.lv r24) (cs := [.I x29.Bag, .I x29.Holder, .bool x29.Open, .L x29.Seals, .L x29.Packed, .L x29.Found]) (cs' := [.I x29.Bag, .I p1.To, .bool x29.Open, .L x29.Seals, .L x29.Packed, .L x29.Found]) rfl rfl (by simp) (focAt hx29) rfl rfl rfl rfl rfl tk3 ts3 rfl).ok) ?_
    exact s0 ((Wk.trans (Wk.to (el := [(10, .arr 8 (List.length (r24.set (r1.1).toNat (GBag.mk x29.Bag p1.To x29.Open x29.Seals x29.Packed x29.Found))))]) (ml := [(8, .nest 46 6 [(3, 3, 1)] (List.map GBag.lv (r24.set (r1.1).toNat (GBag.mk x29.Bag p1.To x29.Open x29.Seals x29.Packed x29.Found))))]) (eC (congrArg (LV.arr 8) (by simp)) eN) (mC (unfN rfl rfl) mN) rfl (prK rfl)) (Wk.trans (Wk.frzNL (f := GBag.lv) (el' := [(10, .lst 6 (List.map GBag.lv (r24.set (r1.1).toNat (GBag.mk x29.Bag p1.To x29.Open x29.Seals x29.Packed x29.Found))))]) 8 46 6 [(3, 3, 1)] (r24.set (r1.1).toNat (GBag.mk x29.Bag p1.To x29.Open x29.Seals x29.Packed x29.Found)) rfl GBag.ok rfl (prN rfl) (fZ fN)) (Wk.eq rfl rfl rfl rfl))))
   refine blockN ?_
   refine thenN ?_
   refine LH.seqT [(4, .lst 6 (List.map GBag.lv (r24.set (r1.1).toNat (GBag.mk x29.Bag p1.To x29.Open x29.Seals x29.Packed x29.Found)))), (5, .I 0)] [] rfl ?_ ?_
   ·refine sMl rfl ?_
    refine sAl rfl ?_
    refine sAi rfl ?_
    exact s0 (Wk.eq rfl rfl rfl rfl)
   refine LH.ret ?_
   obtain rfl := Option.some.inj h
   exact retE (congrArg Array.toList Try.results39) (lrT rfl (lrT rfl (lr0 ⟨memN mN, rfl, prK rfl, (Sub.tup (sbR (sbR sbN)))⟩)))
  replace h := iteF h hc28
  refine LH.seqT [(3, .sptr [.I p1.Stamp.Time, .I p1.Stamp.Source, .I p1.Stamp.Seq, .I p1.Kind, .I p1.Bag, .I p1.Seal, .I p1.From, .I p1.To, .L p1.Candidates]), (6, .I r1.1), (10, .arr 8 (List.length r24)), (48, .I p1.Kind), (75, .bool (p1.Kind == 3))] [(8, .nest 46 6 [(3, 3, 1)] (List.map GBag.lv r24))] rfl ?_ ?_
  ·refine sN (oEq rfl rfl ?_)
   refine sAb rfl ?_
   exact s0 (Wk.eq rfl rfl rfl rfl)
  refine LH.cond (t := (p1.Kind == 3)) rfl (fun hc30 => ?_) (fun hc30 => ?_)
  ·replace h := iteT h hc30
   obtain ⟨x31, hx31, h⟩ := bindS h
   refine LH.seqT [(3, .sptr [.I p1.Stamp.Time, .I p1.Stamp.Source, .I p1.Stamp.Seq, .I p1.Kind, .I p1.Bag, .I p1.Seal, .I p1.From, .I p1.To, .L p1.Candidates]), (6, .I r1.1), (10, .arr 8 (List.length (r24.set (r1.1).toNat (GBag.mk x31.Bag x31.Holder true x31.Seals x31.Packed x31.Found))))] [(8, .nest 46 6 [(3, 3, 1)] (List.map GBag.lv (r24.set (r1.1).toNat (GBag.mk x31.Bag x31.Holder true x31.Seals x31.Packed x31.Found))))] rfl ?_ ?_
   ·refine sMa rfl ?_
    refine sMi rfl ?_
    refine sX ((ok_ixFo (f := GBag.lv) (xs := r24) (cs := [.I x31.Bag, .I x31.Holder, .bool x31.Open, .L x31.Seals, .L x31.Packed, .L x31.Found]) te39 tk46 ts46 rfl rfl rfl rfl hx31 rfl).ok) ?_
    refine sX ((ok_faN tf46_2 tk4 ts4 rfl rfl (by simp) (focAt hx31)).ok) ?_
    refine sX_ ((ok_s1F (ls := List.map GBag.lv r24) (cs := [.I x31.Bag, .I x31.Holder, .bool x31.Open, .L x31.Seals, .L x31.Packed, .L x31.Found]) (cs' := [.I x31.Bag, .I x31.Holder, .bool true, .L x31.Seals, .L x31.Packed, .L x31.Found]) rfl rfl (by simp) (focAt hx31) rfl rfl rfl rfl rfl tk4 ts4 rfl).ok) ?_
    exact s0 (Wk.to (eC rfl (eC rfl (eC (congrArg (LV.arr 8) (by simp)) eN))) (mC (unfN rfl rfl) mN) rfl (prK rfl))
   obtain ⟨v32, hv32, h⟩ := bindS h
   obtain ⟨x33, hx33, h⟩ := bindS h
   refine LH.loneT [(10, .lst 6 (List.map GBag.lv ((r24.set (r1.1).toNat (GBag.mk x31.Bag x31.Holder true x31.Seals x31.Packed x31.Found)).set (r1.1).toNat (GBag.mk x33.Bag x33.Holder x33.Open x33.Seals x33.Packed v32))))] [] rfl ?_ ?_
   ·refine sMa rfl ?_
    refine sMi rfl ?_
    refine sN (oFaS tf34_6 tk22 ts22 rfl rfl rfl ?_)
    refine sN (oLd rfl tk22 ta22 ?_)
    refine sN (oCP (args := [.L p1.Candidates]) rfl isF34 rfl (sbR sbN) (LCall.frz (clone_ok (g := LV.I) cloneW34 rfl 185 hv32) rfl) rfl ?_)
    refine sX ((ok_ixFo (f := GBag.lv) (xs := (r24.set (r1.1).toNat (GBag.mk x31.Bag x31.Holder true x31.Seals x31.Packed x31.Found))) (cs := [.I x33.Bag, .I x33.Holder, .bool x33.Open, .L x33.Seals, .L x33.Packed, .L x33.Found]) te39 tk46 ts46 rfl rfl rfl rfl hx33 rfl).ok) ?_
    refine sX ((ok_faN tf46_5 tk22 ts22 rfl rfl (by simp) (focAt hx33)).ok) ?_
    refine sX_ ((ok_s1F (ls := List.map GBag.lv (r24.set (r1.1).toNat (GBag.mk x31.Bag x31.Holder true x31.Seals x31.Packed x31.Found))) (cs := [.I x33.Bag, .I x33.Holder, .bool x33.Open, .L x33.Seals, .L x33.Packed, .L x33.Found]) (cs' := [.I x33.Bag, .I x33.Holder, .bool x33.Open, .L x33.Seals, .L x33.Packed, .L v32]) rfl rfl (by simp) (focAt hx33) rfl rfl rfl rfl rfl tk22 ts22 rfl).ok) ?_
    exact s0 ((Wk.trans (Wk.to (el := [(10, .arr 8 (List.length ((r24.set (r1.1).toNat (GBag.mk x31.Bag x31.Holder true x31.Seals x31.Packed x31.Found)).set (r1.1).toNat (GBag.mk x33.Bag x33.Holder x33.Open x33.Seals x33.Packed v32))))]) (ml := [(8, .nest 46 6 [(3, 3, 1)] (List.map GBag.lv ((r24.set (r1.1).toNat (GBag.mk x31.Bag x31.Holder true x31.Seals x31.Packed x31.Found)).set (r1.1).toNat (GBag.mk x33.Bag x33.Holder x33.Open x33.Seals x33.Packed v32))))]) (eC (congrArg (LV.arr 8) (by simp)) eN) (mC (unfN rfl rfl) mN) rfl (prK rfl)) (Wk.trans (Wk.frzNL (f := GBag.lv) (el' := [(10, .lst 6 (List.map GBag.lv ((r24.set (r1.1).toNat (GBag.mk x31.Bag x31.Holder true x31.Seals x31.Packed x31.Found)).set (r1.1).toNat (GBag.mk x33.Bag x33.Holder x33.Open x33.Seals x33.Packed v32))))]) 8 46 6 [(3, 3, 1)] ((r24.set (r1.1).toNat (GBag.mk x31.Bag x31.Holder true x31.Seals x31.Packed x31.Found)).set (r1.1).toNat (GBag.mk x33.Bag x33.Holder x33.Open x33.Seals x33.Packed v32)) rfl GBag.ok rfl (prN rfl) (fZ fN)) (Wk.eq rfl rfl rfl rfl))))
   refine blockN ?_
   refine thenN ?_
   refine LH.seqT [(4, .lst 6 (List.map GBag.lv ((r24.set (r1.1).toNat (GBag.mk x31.Bag x31.Holder true x31.Seals x31.Packed x31.Found)).set (r1.1).toNat (GBag.mk x33.Bag x33.Holder x33.Open x33.Seals x33.Packed v32)))), (5, .I 0)] [] rfl ?_ ?_
   ·refine sMl rfl ?_
    refine sAl rfl ?_
    refine sAi rfl ?_
    exact s0 (Wk.eq rfl rfl rfl rfl)
   refine LH.ret ?_
   obtain rfl := Option.some.inj h
   exact retE (congrArg Array.toList Try.results39) (lrT rfl (lrT rfl (lr0 ⟨memN mN, rfl, prK rfl, (Sub.tup (sbR (sbR sbN)))⟩)))
  replace h := iteF h hc30
  refine LH.seqT [(3, .sptr [.I p1.Stamp.Time, .I p1.Stamp.Source, .I p1.Stamp.Seq, .I p1.Kind, .I p1.Bag, .I p1.Seal, .I p1.From, .I p1.To, .L p1.Candidates]), (6, .I r1.1), (10, .arr 8 (List.length r24)), (88, .bool (p1.Kind == 4))] [(8, .nest 46 6 [(3, 3, 1)] (List.map GBag.lv r24))] rfl ?_ ?_
  ·refine sN (oEq rfl rfl ?_)
   refine sAb rfl ?_
   exact s0 (Wk.eq rfl rfl rfl rfl)
  refine LH.cond (t := (p1.Kind == 4)) rfl (fun hc34 => ?_) (fun hc34 => ?_)
  ·replace h := iteT h hc34
   obtain ⟨x35, hx35, h⟩ := bindS h
   obtain ⟨v36, hv36, h⟩ := bindS h
   refine LH.loneTM mixed [] [0, 0, 0, 0, 3, 3, 3, 0, 0, 0, 2, 3, 3, 3] [(10, .lst 6 (List.map GBag.lv (r24.set (r1.1).toNat (GBag.mk x35.Bag x35.Holder x35.Open v36 x35.Packed x35.Found))))] [] rfl rfl (by kernel_rfl) ?_ ?_
   ·refine mN0 (oM (v := (.arr _ _)) rfl ⟨rfl, ?_⟩)
    refine mN0 (oM (v := (.int _ _)) rfl ⟨rfl, ?_⟩)
    refine mN0 (oM (v := (.arr _ _)) rfl ⟨rfl, ?_⟩)
    refine mN0 (oM (v := (.int _ _)) rfl ⟨rfl, ?_⟩)
    refine mX (ok_ixFo (f := GBag.lv) (xs := r24) (cs := [.I x35.Bag, .I x35.Holder, .bool x35.Open, .L x35.Seals, .L x35.Packed, .L x35.Found]) te39 tk46 ts46 rfl rfl rfl rfl hx35 rfl) ?_
    refine mX (ok_faN tf46_3 tk22 ts22 rfl rfl (by simp) (focAt hx35)) ?_
    refine mX (ok_takeF (g := LV.I) (ys := x35.Seals) (ls := List.map GBag.lv r24) (cs := [.I x35.Bag, .I x35.Holder, .bool x35.Open, .L x35.Seals, .L x35.Packed, .L x35.Found]) (id2 := 196) (cs' := [.I x35.Bag, .I x35.Holder, .bool x35.Open, .und, .L x35.Packed, .L x35.Found]) rfl rfl (by simp) (focAt hx35) rfl rfl rfl tk22 ta22 rfl) ?_
    refine mN0 (oFaS tf34_3 tk3 ts3 rfl rfl rfl ⟨rfl, ?_⟩)
    refine mN0 (oLd rfl tk3 ta3 ⟨rfl, ?_⟩)
    refine mN0 (oBS (f := LV.I) (ys := [p1.Seal]) te22 tr3 ts3 rfl rfl rfl okI ⟨rfl, ?_⟩)
    refine mN2 (oAp (f := LV.I) te22 tr3 ts3 rfl rfl (prN rfl) rfl hv36 ?_)
    refine mX (ok_ixG (f := GBag.lv) (xs := r24) te39 tk46 ts46 rfl rfl rfl rfl hx35) ?_
    refine mX (ok_faN tf46_3 tk22 ts22 rfl rfl (by simp) (focAt hx35)) ?_
    refine mX_ (ok_putF (g := LV.I) (ys := v36) (ls := List.map GBag.lv r24) (cs := [.I x35.Bag, .I x35.Holder, .bool x35.Open, .und, .L x35.Packed, .L x35.Found]) (cs' := [.I x35.Bag, .I x35.Holder, .bool x35.Open, .L v36, .L x35.Packed, .L x35.Found]) rfl rfl (by simp) (focAt hx35) rfl rfl rfl rfl rfl (prN rfl) tk22 ts22 rfl) ?_
    exact m0 ((Wk.trans (Wk.to (el := [(10, .arr 8 (List.length (r24.set (r1.1).toNat (GBag.mk x35.Bag x35.Holder x35.Open v36 x35.Packed x35.Found))))]) (ml := [(8, .nest 46 6 [(3, 3, 1)] (List.map GBag.lv (r24.set (r1.1).toNat (GBag.mk x35.Bag x35.Holder x35.Open v36 x35.Packed x35.Found))))]) (eC (congrArg (LV.arr 8) (by simp)) eN) (mC (unfN rfl rfl) mN) rfl (prK rfl)) (Wk.trans (Wk.frzNL (f := GBag.lv) (el' := [(10, .lst 6 (List.map GBag.lv (r24.set (r1.1).toNat (GBag.mk x35.Bag x35.Holder x35.Open v36 x35.Packed x35.Found))))]) 8 46 6 [(3, 3, 1)] (r24.set (r1.1).toNat (GBag.mk x35.Bag x35.Holder x35.Open v36 x35.Packed x35.Found)) rfl GBag.ok rfl (prN rfl) (fZ fN)) (Wk.eq rfl rfl rfl rfl))))
   refine blockN ?_
   refine thenN ?_
   refine LH.seqT [(4, .lst 6 (List.map GBag.lv (r24.set (r1.1).toNat (GBag.mk x35.Bag x35.Holder x35.Open v36 x35.Packed x35.Found)))), (5, .I 0)] [] rfl ?_ ?_
   ·refine sMl rfl ?_
    refine sAl rfl ?_
    refine sAi rfl ?_
    exact s0 (Wk.eq rfl rfl rfl rfl)
   refine LH.ret ?_
   obtain rfl := Option.some.inj h
   exact retE (congrArg Array.toList Try.results39) (lrT rfl (lrT rfl (lr0 ⟨memN mN, rfl, prK rfl, (Sub.tup (sbR (sbR sbN)))⟩)))
  replace h := iteF h hc34
  refine LH.skip ?_
  refine blockN ?_
  refine thenN ?_
  refine LH.wk ((Wk.trans (Wk.eq (el := [(10, .arr 8 (List.length r24))]) (ml := [(8, .nest 46 6 [(3, 3, 1)] (List.map GBag.lv r24))]) rfl rfl rfl rfl) (Wk.trans (Wk.frzNL (f := GBag.lv) (el' := [(10, .lst 6 (List.map GBag.lv r24))]) 8 46 6 [(3, 3, 1)] r24 rfl GBag.ok rfl (prN rfl) (fZ fN)) (Wk.eq (el := [(10, .lst 6 (List.map GBag.lv r24))]) (ml := []) rfl rfl rfl rfl)))) ?_
  refine LH.seqT [(4, .lst 6 (List.map GBag.lv r24)), (5, .I 0)] [] rfl ?_ ?_
  ·refine sMl rfl ?_
   refine sAl rfl ?_
   refine sAi rfl ?_
   exact s0 (Wk.eq rfl rfl rfl rfl)
  refine LH.ret ?_
  obtain rfl := Option.some.inj h
  exact retE (congrArg Array.toList Try.results39) (lrT rfl (lrT rfl (lr0 ⟨memN mN, rfl, prK rfl, (Sub.tup (sbR (sbR sbN)))⟩)))

theorem custody_Fold_ok {F : Nat} {p0 : List GBagEvent} {p1 : Int} {r : List GBag × List GRefusal × Int} (h : custody_Fold F p0 p1 = some r) : LCall Try.prog 18 [.lst 9 (List.map GBagEvent.lv p0), .I p1] (Mem.of []) (.tup [.lst 6 (List.map GBag.lv r.1), .lst 3 (List.map GRefusal.lv r.2.1), .I r.2.2]) (Mem.of []) := by
  unfold custody_Fold at h
  refine bodyT Try.func18 rfl (by rw [Try.ntmps18]; exact Nat.le_of_ble_eq_true rfl) ?_
  refine LH.wk (Wk.eq (el := [(0, .lst 9 (List.map GBagEvent.lv p0)), (1, .I p1)]) (ml := []) rfl rfl rfl rfl) ?_
  refine LH.seqT [(0, .lst 9 (List.map GBagEvent.lv p0)), (1, .I p1)] [] rfl ?_ ?_
  ·refine sAn rfl ?_
   refine sAn rfl ?_
   refine sAi rfl ?_
   exact s0 (Wk.eq rfl rfl rfl rfl)
  obtain ⟨r1, hr1, h⟩ := bindS h
  refine LH.seqT [(1, .I p1), (7, .lst 9 (List.map GBagEvent.lv r1.1)), (8, .I r1.2)] [] rfl ?_ ?_
  ·refine sMl rfl ?_
   refine sN (oCP (args := [.lst 9 (List.map GBagEvent.lv p0)]) rfl isF11 rfl (sbR sbN) (custody_Canonical_ok hr1) rfl ?_)
   refine sMt rfl ?_
   refine sN (oEx rfl rfl ?_)
   refine sN (oEx rfl rfl ?_)
   refine sAl rfl ?_
   refine sAi rfl ?_
   exact s0 (Wk.eq rfl rfl rfl rfl)
  refine LH.seq ?_
  refine LH.seqT [(1, .I p1), (7, .lst 9 (List.map GBagEvent.lv r1.1)), (8, .I r1.2), (21, .bool (r1.2 != 0))] [] rfl ?_ ?_
  ·refine sMi rfl ?_
   refine sN (oNe rfl rfl ?_)
   exact s0 (Wk.eq rfl rfl rfl rfl)
  refine LH.cond (t := (r1.2 != 0)) rfl (fun hc2 => ?_) (fun hc2 => ?_)
  ·replace h := iteT h hc2
   refine LH.seqT [(4, .nil), (5, .nil), (6, .I r1.2)] [] rfl ?_ ?_
   ·refine sMi rfl ?_
    refine sAn rfl ?_
    refine sAn rfl ?_
    refine sAi rfl ?_
    exact s0 (Wk.eq rfl rfl rfl rfl)
   refine LH.ret ?_
   refine thenR ?_
   obtain rfl := Option.some.inj h
   exact retE (congrArg Array.toList Try.results18) (lrT rfl (lrT rfl (lrT rfl (lr0 ⟨memN mN, rfl, prK rfl, (Sub.tup (sbL (sbL (sbR sbN))))⟩))))
  replace h := iteF h hc2
  refine LH.skip ?_
  refine thenN ?_
  refine LH.seqT [(1, .I p1), (7, .lst 9 (List.map GBagEvent.lv r1.1)), (9, .nil)] [] rfl ?_ ?_
  ·refine sAn rfl ?_
   exact s0 (Wk.eq rfl rfl rfl rfl)
  refine LH.seqT [(1, .I p1), (7, .lst 9 (List.map GBagEvent.lv r1.1)), (9, .nil), (10, .nil)] [] rfl ?_ ?_
  ·refine sAn rfl ?_
   exact s0 (Wk.eq rfl rfl rfl rfl)
  refine LH.seq ?_
  refine LH.seqT [(1, .I p1), (9, .nil), (10, .nil), (23, .lst 9 (List.map GBagEvent.lv r1.1)), (24, .I (r1.1.length : Int)), (25, .I 0)] [] rfl ?_ ?_
  ·refine sMl rfl ?_
   refine sN (oLnL (f := GBagEvent.lv) te25 rfl ?_)
   refine sMi rfl ?_
   exact s0 (Wk.eq rfl rfl rfl rfl)
  refine LH.block ?_
  refine LH.wk ((Wk.trans (Wk.eq (el := [(1, .I p1), (9, .nil), (10, .nil), (23, .lst 9 (List.map GBagEvent.lv r1.1)), (24, .I (r1.1.length : Int)), (25, .I 0)]) (ml := []) rfl rfl rfl rfl) (Wk.trans (Wk.eq (el := [(1, .I p1), (9, .nil), (10, .nil), (23, .lst 9 (List.map GBagEvent.lv r1.1)), (24, .I (r1.1.length : Int)), (25, .I 0)]) (ml := []) rfl rfl rfl rfl) (Wk.trans (Wk.ownL (el' := [(1, .I p1), (9, .nil), (10, .arr 153 (List.length ([] : List GRefusal))), (23, .lst 9 (List.map GBagEvent.lv r1.1)), (24, .I (r1.1.length : Int)), (25, .I 0)]) 153 50 3 rfl rfl (wK (wK (wO (wK (wK (wK wN))))))) (Wk.to (el := [(1, .I p1), (9, .lst 6 (List.map GBag.lv ([] : List GBag))), (10, .arr 153 (List.length ([] : List GRefusal))), (23, .lst 9 (List.map GBagEvent.lv r1.1)), (24, .I (r1.1.length : Int)), (25, .I 0)]) (ml := [(153, .arr 50 3 (List.map GRefusal.lv ([] : List GRefusal)))]) (eC rfl (eL rfl (eC rfl (eC rfl (eC rfl (eC rfl eN)))))) ⟨rfl, trivial⟩ rfl (prK rfl)))))) ?_
  refine LH.loop (fun n e m => ∃ (l3 : List GBag) (n4 : Int) (l5 : List GRefusal), custody_Fold_L1 F p1 r1 n l3 n4 l5 = some r ∧ e = Env.of [(1, .I p1), (9, .lst 6 (List.map GBag.lv l3)), (10, .arr 153 (List.length l5)), (23, .lst 9 (List.map GBagEvent.lv r1.1)), (24, .I (r1.1.length : Int)), (25, .I n4)] ∧ m = Mem.of [(153, .arr 50 3 (List.map GRefusal.lv l5))]) F ⟨([] : List GBag), 0, ([] : List GRefusal), h, rfl, rfl⟩ ?_
  clear h
  rintro n e m ⟨l3, n4, l5, h, rfl, rfl⟩
  rcases n with _ | n
  · cases (show Option.none = some _ from h)
  obtain ⟨rec1, hrec1⟩ : ∃ f, f = custody_Fold_L1 F p1 r1 n := ⟨_, rfl⟩
  replace h : custody_Fold_L1_B F p1 r1 rec1 l3 n4 l5 = some r := hrec1 ▸ h
  unfold custody_Fold_L1_B at h
  refine LH.seqT [(1, .I p1), (9, .lst 6 (List.map GBag.lv l3)), (10, .arr 153 (List.length l5)), (23, .lst 9 (List.map GBagEvent.lv r1.1)), (24, .I (r1.1.length : Int)), (25, .I n4), (26, .bool (decide (n4 < (r1.1.length : Int))))] [(153, .arr 50 3 (List.map GRefusal.lv l5))] rfl ?_ ?_
  ·refine sN (oLt rfl rfl ?_)
   exact s0 (Wk.eq rfl rfl rfl rfl)
  refine LH.seq ?_
  refine LH.cond (t := (decide (n4 < (r1.1.length : Int)))) rfl (fun hc6 => ?_) (fun hc6 => ?_)
  ·replace h := iteT h hc6
   refine LH.skip ?_
   refine thenN ?_
   refine LH.wk (Wk.eq (el := [(1, .I p1), (9, .lst 6 (List.map GBag.lv l3)), (10, .arr 153 (List.length l5)), (23, .lst 9 (List.map GBagEvent.lv r1.1)), (24, .I (r1.1.length : Int)), (25, .I n4)]) (ml := [(153, .arr 50 3 (List.map GRefusal.lv l5))]) rfl rfl rfl rfl) ?_
   refine LH.seq ?_
   refine LH.block ?_
   obtain ⟨x7, hx7, h⟩ := bindS h
   refine LH.seqT [(1, .I p1), (9, .lst 6 (List.map GBag.lv l3)), (10, .arr 153 (List.length l5)), (12, .sptr [.I x7.Stamp.Time, .I x7.Stamp.Source, .I x7.Stamp.Seq, .I x7.Kind, .I x7.Bag, .I x7.Seal, .I x7.From, .I x7.To, .L x7.Candidates]), (23, .lst 9 (List.map GBagEvent.lv r1.1)), (24, .I (r1.1.length : Int)), (25, .I n4)] [(153, .arr 50 3 (List.map GRefusal.lv l5))] rfl ?_ ?_
   ·refine sN (oIx (f := GBagEvent.lv) te25 tk34 ts34 rfl rfl GBagEvent.ok hx7 rfl ?_)
    refine sN (oLdA rfl tk34 ta34 ts34 rfl rfl ?_)
    refine sN (oAl (id := 112) rfl tz34 rfl rfl ?_)
    refine s_ (oSt rfl rfl rfl tk34 ts34 rfl rfl rfl ?_)
    exact s0 ((Wk.trans (Wk.eq (el := [(1, .I p1), (9, .lst 6 (List.map GBag.lv l3)), (10, .arr 153 (List.length l5)), (12, .ptr 112 0), (23, .lst 9 (List.map GBagEvent.lv r1.1)), (24, .I (r1.1.length : Int)), (25, .I n4)]) (ml := [(112, .box [.I x7.Stamp.Time, .I x7.Stamp.Source, .I x7.Stamp.Seq, .I x7.Kind, .I x7.Bag, .I x7.Seal, .I x7.From, .I x7.To, .L x7.Candidates]), (153, .arr 50 3 (List.map GRefusal.lv l5))]) rfl rfl rfl rfl) (Wk.trans (Wk.frzB 112 [.I x7.Stamp.Time, .I x7.Stamp.Source, .I x7.Stamp.Seq, .I x7.Kind, .I x7.Bag, .I x7.Seal, .I x7.From, .I x7.To, .L x7.Candidates] rfl rfl rfl (prN rfl)) (Wk.eq rfl rfl rfl rfl))))
   refine LH.seq ?_
   refine LH.seqT [(1, .I p1), (9, .lst 6 (List.map GBag.lv l3)), (10, .arr 153 (List.length l5)), (12, .sptr [.I x7.Stamp.Time, .I x7.Stamp.Source, .I x7.Stamp.Seq, .I x7.Kind, .I x7.Bag, .I x7.Seal, .I x7.From, .I x7.To, .L x7.Candidates]), (23, .lst 9 (List.map GBagEvent.lv r1.1)), (24, .I (r1.1.length : Int)), (25, .I n4), (33, .bool (decide (x7.Stamp.Time > p1)))] [(153, .arr 50 3 (List.map GRefusal.lv l5))] rfl ?_ ?_
   ·refine sN (oFaS tf34_0 tk32 ts32 rfl rfl rfl ?_)
    refine sN (oFaS tf32_0 tk3 ts3 rfl rfl rfl ?_)
    refine sN (oLd rfl tk3 ta3 ?_)
    refine sMi rfl ?_
    refine sN (oGt rfl rfl ?_)
    exact s0 (Wk.eq rfl rfl rfl rfl)
   refine LH.cond (t := (decide (x7.Stamp.Time > p1))) rfl (fun hc8 => ?_) (fun hc8 => ?_)
   ·replace h := iteT h hc8
    refine LH.exit ?_
    refine thenX ?_
    refine blockX rfl ?_
    refine thenX ?_
    refine roundX ?_
    refine blockH ?_
    refine thenN ?_
    refine LH.wk ((Wk.trans (Wk.eq (el := [(9, .lst 6 (List.map GBag.lv l3)), (10, .arr 153 (List.length l5))]) (ml := [(153, .arr 50 3 (List.map GRefusal.lv l5))]) rfl rfl rfl rfl) (Wk.trans (Wk.frzL (f := GRefusal.lv) (el' := [(9, .lst 6 (List.map GBag.lv l3)), (10, .lst 3 (List.map GRefusal.lv l5))]) 153 50 3 l5 rfl rfl (prN rfl) (fK rfl (fZ fN))) (Wk.eq (el := [(9, .lst 6 (List.map GBag.lv l3)), (10, .lst 3 (List.map GRefusal.lv l5))]) (ml := []) rfl rfl rfl rfl)))) ?_
    refine LH.seqT [(4, .lst 6 (List.map GBag.lv l3)), (5, .lst 3 (List.map GRefusal.lv l5)), (6, .I 0)] [] rfl ?_ ?_
    ·refine sMl rfl ?_
     refine sMl rfl ?_
     refine sAl rfl ?_
     refine sAl rfl ?_
     refine sAi rfl ?_
     exact s0 (Wk.eq rfl rfl rfl rfl)
    refine LH.ret ?_
    obtain rfl := Option.some.inj h
    exact retE (congrArg Array.toList Try.results18) (lrT rfl (lrT rfl (lrT rfl (lr0 ⟨memN mN, rfl, prK rfl, (Sub.tup (sbR (sbR (sbR sbN))))⟩))))
   replace h := iteF h hc8
   refine LH.skip ?_
   refine thenN ?_
   obtain ⟨r9, hr9, h⟩ := bindS h
   refine LH.seqT [(1, .I p1), (9, .lst 6 (List.map GBag.lv l3)), (10, .arr 153 (List.length l5)), (12, .sptr [.I x7.Stamp.Time, .I x7.Stamp.Source, .I x7.Stamp.Seq, .I x7.Kind, .I x7.Bag, .I x7.Seal, .I x7.From, .I x7.To, .L x7.Candidates]), (13, .lst 6 (List.map GBag.lv r9.1)), (14, .I r9.2), (23, .lst 9 (List.map GBagEvent.lv r1.1)), (24, .I (r1.1.length : Int)), (25, .I n4)] [(153, .arr 50 3 (List.map GRefusal.lv l5))] rfl ?_ ?_
   ·refine sMl rfl ?_
    refine sN (oLdA rfl tk34 ta34 ts34 rfl rfl ?_)
    refine sN (oCP (args := [.lst 6 (List.map GBag.lv l3), .agg [.I x7.Stamp.Time, .I x7.Stamp.Source, .I x7.Stamp.Seq, .I x7.Kind, .I x7.Bag, .I x7.Seal, .I x7.From, .I x7.To, .L x7.Candidates]]) rfl isF39 rfl (sbR (sbR sbN)) (custody_step_ok hr9) rfl ?_)
    refine sMt rfl ?_
    refine sN (oEx rfl rfl ?_)
    refine sN (oEx rfl rfl ?_)
    refine sAl rfl ?_
    refine sAi rfl ?_
    exact s0 (Wk.eq rfl rfl rfl rfl)
   refine LH.seq ?_
   refine LH.seqT [(1, .I p1), (9, .lst 6 (List.map GBag.lv l3)), (10, .arr 153 (List.length l5)), (12, .sptr [.I x7.Stamp.Time, .I x7.Stamp.Source, .I x7.Stamp.Seq, .I x7.Kind, .I x7.Bag, .I x7.Seal, .I x7.From, .I x7.To, .L x7.Candidates]), (13, .lst 6 (List.map GBag.lv r9.1)), (14, .I r9.2), (23, .lst 9 (List.map GBagEvent.lv r1.1)), (24, .I (r1.1.length : Int)), (25, .I n4), (41, .bool (r9.2 != 0))] [(153, .arr 50 3 (List.map GRefusal.lv l5))] rfl ?_ ?_
   ·refine sMi rfl ?_
    refine sN (oNe rfl rfl ?_)
    exact s0 (Wk.eq rfl rfl rfl rfl)
   refine LH.cond (t := (r9.2 != 0)) rfl (fun hc10 => ?_) (fun hc10 => ?_)
   ·replace h := iteT h hc10
    obtain ⟨v11, hv11, h⟩ := bindS h
    refine LH.seqT [(1, .I p1), (9, .lst 6 (List.map GBag.lv l3)), (10, .arr 153 (List.length v11)), (23, .lst 9 (List.map GBagEvent.lv r1.1)), (24, .I (r1.1.length : Int)), (25, .I n4)] [(153, .arr 50 3 (List.map GRefusal.lv v11))] rfl ?_ ?_
    ·refine sMa rfl ?_
     refine sN (oFaS tf34_0 tk32 ts32 rfl rfl rfl ?_)
     refine sN (oFaS tf32_1 tk3 ts3 rfl rfl rfl ?_)
     refine sN (oLd rfl tk3 ta3 ?_)
     refine sN (oFaS tf34_0 tk32 ts32 rfl rfl rfl ?_)
     refine sN (oFaS tf32_2 tk3 ts3 rfl rfl rfl ?_)
     refine sN (oLd rfl tk3 ta3 ?_)
     refine sN (oBd (vs := [(0, .I x7.Stamp.Source), (1, .I x7.Stamp.Seq)]) tu48 tz48 rfl (lf tf48_0 ts3 tk3 rfl rfl rfl (lf tf48_1 ts3 tk3 rfl rfl rfl lf0)) ?_)
     refine sMi rfl ?_
     refine sN (oBd (vs := [(0, .agg [.I x7.Stamp.Source, .I x7.Stamp.Seq]), (1, .I r9.2)]) tu50 tz50 rfl (lf tf50_0 ts48 tk48 rfl rfl rfl (lf tf50_1 ts27 tk27 rfl rfl rfl lf0)) ?_)
     refine sN (oBS (f := GRefusal.lv) (ys := [(GRefusal.mk (GIdentity.mk x7.Stamp.Source x7.Stamp.Seq) r9.2)]) te40 tr50 ts50 rfl rfl rfl GRefusal.ok ?_)
     refine sN (oAp (f := GRefusal.lv) te40 tr50 ts50 rfl rfl (prN rfl) rfl hv11 ?_)
     refine sAa rfl ?_
     exact s0 (Wk.eq rfl rfl rfl rfl)
    refine LH.exit ?_
    refine thenX ?_
    refine blockH ?_
    refine thenN ?_
    refine LH.loneT [(1, .I p1), (9, .lst 6 (List.map GBag.lv l3)), (10, .arr 153 (List.length v11)), (23, .lst 9 (List.map GBagEvent.lv r1.1)), (24, .I (r1.1.length : Int)), (25, .I (i64 (n4 + 1)))] [(153, .arr 50 3 (List.map GRefusal.lv v11))] rfl ?_ ?_
    ·refine sN (oAdd rfl rfl ?_)
     refine sMi rfl ?_
     exact s0 (Wk.eq rfl rfl rfl rfl)
    exact roundI ⟨l3, (i64 (n4 + 1)), v11, hrec1 ▸ h, rfl, rfl⟩ (Wk.eq rfl rfl rfl rfl)
   replace h := iteF h hc10
   refine LH.skip ?_
   refine thenN ?_
   refine LH.loneT [(1, .I p1), (9, .lst 6 (List.map GBag.lv r9.1)), (10, .arr 153 (List.length l5)), (23, .lst 9 (List.map GBagEvent.lv r1.1)), (24, .I (r1.1.length : Int)), (25, .I n4)] [(153, .arr 50 3 (List.map GRefusal.lv l5))] rfl ?_ ?_
   ·refine sMl rfl ?_
    refine sAl rfl ?_
    exact s0 (Wk.eq rfl rfl rfl rfl)
   refine blockN ?_
   refine thenN ?_
   refine LH.loneT [(1, .I p1), (9, .lst 6 (List.map GBag.lv r9.1)), (10, .arr 153 (List.length l5)), (23, .lst 9 (List.map GBagEvent.lv r1.1)), (24, .I (r1.1.length : Int)), (25, .I (i64 (n4 + 1)))] [(153, .arr 50 3 (List.map GRefusal.lv l5))] rfl ?_ ?_
   ·refine sN (oAdd rfl rfl ?_)
    refine sMi rfl ?_
    exact s0 (Wk.eq rfl rfl rfl rfl)
   exact roundI ⟨r9.1, (i64 (n4 + 1)), l5, hrec1 ▸ h, rfl, rfl⟩ (Wk.eq rfl rfl rfl rfl)
  replace h := iteF h hc6
  refine LH.exit ?_
  refine thenX ?_
  refine roundX ?_
  refine blockH ?_
  refine thenN ?_
  refine LH.wk ((Wk.trans (Wk.eq (el := [(9, .lst 6 (List.map GBag.lv l3)), (10, .arr 153 (List.length l5))]) (ml := [(153, .arr 50 3 (List.map GRefusal.lv l5))]) rfl rfl rfl rfl) (Wk.trans (Wk.frzL (f := GRefusal.lv) (el' := [(9, .lst 6 (List.map GBag.lv l3)), (10, .lst 3 (List.map GRefusal.lv l5))]) 153 50 3 l5 rfl rfl (prN rfl) (fK rfl (fZ fN))) (Wk.eq (el := [(9, .lst 6 (List.map GBag.lv l3)), (10, .lst 3 (List.map GRefusal.lv l5))]) (ml := []) rfl rfl rfl rfl)))) ?_
  refine LH.seqT [(4, .lst 6 (List.map GBag.lv l3)), (5, .lst 3 (List.map GRefusal.lv l5)), (6, .I 0)] [] rfl ?_ ?_
  ·refine sMl rfl ?_
   refine sMl rfl ?_
   refine sAl rfl ?_
   refine sAl rfl ?_
   refine sAi rfl ?_
   exact s0 (Wk.eq rfl rfl rfl rfl)
  refine LH.ret ?_
  obtain rfl := Option.some.inj h
  exact retE (congrArg Array.toList Try.results18) (lrT rfl (lrT rfl (lrT rfl (lr0 ⟨memN mN, rfl, prK rfl, (Sub.tup (sbR (sbR (sbR sbN))))⟩))))

set_option maxHeartbeats 4000000 in
theorem custody_Account_ok {F : Nat} {p0 : List GBag} {p1 : List Int} {r : List Int × List Int × List Int × List Int} (h : custody_Account F p0 p1 = some r) : LCall Try.prog 22 [.lst 6 (List.map GBag.lv p0), .L p1] (Mem.of []) (.tup [.L r.1, .L r.2.1, .L r.2.2.1, .L r.2.2.2]) (Mem.of []) := by
  unfold custody_Account at h
  refine bodyT Try.func22 rfl (by rw [Try.ntmps22]; exact Nat.le_of_ble_eq_true rfl) ?_
  refine LH.wk (Wk.eq (el := [(0, .lst 6 (List.map GBag.lv p0)), (1, .L p1)]) (ml := []) rfl rfl rfl rfl) ?_
  refine LH.seqT [(0, .lst 6 (List.map GBag.lv p0)), (1, .L p1), (4, .nil), (5, .nil), (6, .nil), (7, .nil)] [] rfl ?_ ?_
  ·refine sAn rfl ?_
   refine sAn rfl ?_
   refine sAn rfl ?_
   refine sAn rfl ?_
   exact s0 (Wk.eq rfl rfl rfl rfl)
  refine LH.seqT [(0, .lst 6 (List.map GBag.lv p0)), (1, .L p1), (4, .nil), (5, .nil), (6, .nil), (7, .nil), (8, .mp 119), (9, .mp 120), (10, .mp 121)] [(119, .map 3 4 (mlv LV.I LV.bool ([] : List (Int × Bool)))), (120, .map 3 4 (mlv LV.I LV.bool ([] : List (Int × Bool)))), (121, .map 3 4 (mlv LV.I LV.bool ([] : List (Int × Bool))))] rfl ?_ ?_
  ·refine sX ((ok_makeMap (kt := 3) (vt := 4) (id := 119) rfl).ok) ?_
   refine sX ((ok_makeMap (kt := 3) (vt := 4) (id := 120) rfl).ok) ?_
   refine sX ((ok_makeMap (kt := 3) (vt := 4) (id := 121) rfl).ok) ?_
   refine sN (oA (v := (.mp _)) rfl ?_)
   refine sN (oA (v := (.mp _)) rfl ?_)
   refine sN (oA (v := (.mp _)) rfl ?_)
   exact s0 (Wk.eq rfl rfl rfl rfl)
  refine LH.seq ?_
  refine LH.seqT [(1, .L p1), (4, .nil), (5, .nil), (6, .nil), (7, .nil), (8, .mp 119), (9, .mp 120), (10, .mp 121), (22, .lst 6 (List.map GBag.lv p0)), (23, .I (p0.length : Int)), (24, .I 0)] [(119, .map 3 4 (mlv LV.I LV.bool ([] : List (Int × Bool)))), (120, .map 3 4 (mlv LV.I LV.bool ([] : List (Int × Bool)))), (121, .map 3 4 (mlv LV.I LV.bool ([] : List (Int × Bool))))] rfl ?_ ?_
  ·refine sMl rfl ?_
   refine sN (oLnL (f := GBag.lv) te39 rfl ?_)
   refine sMi rfl ?_
   exact s0 (Wk.eq rfl rfl rfl rfl)
  refine LH.block ?_
  refine LH.loop (fun n e m => ∃ (n1 : Int) (m2 : List (Int × Bool)) (m3 : List (Int × Bool)) (m4 : List (Int × Bool)), custody_Account_L1 F p0 p1 n n1 m2 m3 m4 = some r ∧ e = Env.of [(1, .L p1), (4, .nil), (5, .nil), (6, .nil), (7, .nil), (8, .mp 119), (9, .mp 120), (10, .mp 121), (22, .lst 6 (List.map GBag.lv p0)), (23, .I (p0.length : Int)), (24, .I n1)] ∧ m = Mem.of [(119, .map 3 4 (mlv LV.I LV.bool m2)), (120, .map 3 4 (mlv LV.I LV.bool m3)), (121, .map 3 4 (mlv LV.I LV.bool m4))]) F ⟨0, ([] : List (Int × Bool)), ([] : List (Int × Bool)), ([] : List (Int × Bool)), h, rfl, rfl⟩ ?_
  clear h
  rintro n e m ⟨n1, m2, m3, m4, h, rfl, rfl⟩
  rcases n with _ | n
  · cases (show Option.none = some _ from h)
  obtain ⟨rec1, hrec1⟩ : ∃ f, f = custody_Account_L1 F p0 p1 n := ⟨_, rfl⟩
  replace h : custody_Account_L1_B F p0 p1 rec1 n1 m2 m3 m4 = some r := hrec1 ▸ h
  unfold custody_Account_L1_B at h
  refine LH.seqT [(1, .L p1), (4, .nil), (5, .nil), (6, .nil), (7, .nil), (8, .mp 119), (9, .mp 120), (10, .mp 121), (22, .lst 6 (List.map GBag.lv p0)), (23, .I (p0.length : Int)), (24, .I n1), (25, .bool (decide (n1 < (p0.length : Int))))] [(119, .map 3 4 (mlv LV.I LV.bool m2)), (120, .map 3 4 (mlv LV.I LV.bool m3)), (121, .map 3 4 (mlv LV.I LV.bool m4))] rfl ?_ ?_
  ·refine sN (oLt rfl rfl ?_)
   exact s0 (Wk.eq rfl rfl rfl rfl)
  refine LH.seq ?_
  refine LH.cond (t := (decide (n1 < (p0.length : Int)))) rfl (fun hc5 => ?_) (fun hc5 => ?_)
  ·replace h := iteT h hc5
   refine LH.skip ?_
   refine thenN ?_
   refine LH.wk (Wk.eq (el := [(1, .L p1), (4, .nil), (5, .nil), (6, .nil), (7, .nil), (8, .mp 119), (9, .mp 120), (10, .mp 121), (22, .lst 6 (List.map GBag.lv p0)), (23, .I (p0.length : Int)), (24, .I n1)]) (ml := [(119, .map 3 4 (mlv LV.I LV.bool m2)), (120, .map 3 4 (mlv LV.I LV.bool m3)), (121, .map 3 4 (mlv LV.I LV.bool m4))]) rfl rfl rfl rfl) ?_
   refine LH.seq ?_
   refine LH.block ?_
   obtain ⟨x6, hx6, h⟩ := bindS h
   refine LH.seqT [(1, .L p1), (4, .nil), (5, .nil), (6, .nil), (7, .nil), (8, .mp 119), (9, .mp 120), (10, .mp 121), (12, .sptr [.I x6.Bag, .I x6.Holder, .bool x6.Open, .L x6.Seals, .L x6.Packed, .L x6.Found]), (22, .lst 6 (List.map GBag.lv p0)), (23, .I (p0.length : Int)), (24, .I n1)] [(119, .map 3 4 (mlv LV.I LV.bool m2)), (120, .map 3 4 (mlv LV.I LV.bool m3)), (121, .map 3 4 (mlv LV.I LV.bool m4))] rfl ?_ ?_
   ·refine sN (oIx (f := GBag.lv) te39 tk46 ts46 rfl rfl GBag.ok hx6 rfl ?_)
    refine sN (oLdA rfl tk46 ta46 ts46 rfl rfl ?_)
    refine sN (oAl (id := 112) rfl tz46 rfl rfl ?_)
    refine s_ (oSt rfl rfl rfl tk46 ts46 rfl rfl rfl ?_)
    exact s0 ((Wk.trans (Wk.eq (el := [(1, .L p1), (4, .nil), (5, .nil), (6, .nil), (7, .nil), (8, .mp 119), (9, .mp 120), (10, .mp 121), (12, .ptr 112 0), (22, .lst 6 (List.map GBag.lv p0)), (23, .I (p0.length : Int)), (24, .I n1)]) (ml := [(112, .box [.I x6.Bag, .I x6.Holder, .bool x6.Open, .L x6.Seals, .L x6.Packed, .L x6.Found]), (119, .map 3 4 (mlv LV.I LV.bool m2)), (120, .map 3 4 (mlv LV.I LV.bool m3)), (121, .map 3 4 (mlv LV.I LV.bool m4))]) rfl rfl rfl rfl) (Wk.trans (Wk.frzB 112 [.I x6.Bag, .I x6.Holder, .bool x6.Open, .L x6.Seals, .L x6.Packed, .L x6.Found] rfl rfl rfl (prN rfl)) (Wk.eq rfl rfl rfl rfl))))
   refine LH.seq ?_
   refine LH.seqT [(1, .L p1), (4, .nil), (5, .nil), (6, .nil), (7, .nil), (8, .mp 119), (9, .mp 120), (10, .mp 121), (12, .sptr [.I x6.Bag, .I x6.Holder, .bool x6.Open, .L x6.Seals, .L x6.Packed, .L x6.Found]), (22, .lst 6 (List.map GBag.lv p0)), (23, .I (p0.length : Int)), (24, .I n1), (29, .L x6.Packed), (30, .I (x6.Packed.length : Int)), (31, .I 0)] [(119, .map 3 4 (mlv LV.I LV.bool m2)), (120, .map 3 4 (mlv LV.I LV.bool m3)), (121, .map 3 4 (mlv LV.I LV.bool m4))] rfl ?_ ?_
   ·refine sN (oFaS tf46_4 tk22 ts22 rfl rfl rfl ?_)
    refine sN (oLd rfl tk22 ta22 ?_)
    refine sN (oLnL (f := LV.I) te22 rfl ?_)
    refine sMi rfl ?_
    exact s0 (Wk.eq rfl rfl rfl rfl)
   refine LH.block ?_
   refine LH.loop (fun n e m => ∃ (n7 : Int) (m8 : List (Int × Bool)) (m9 : List (Int × Bool)), custody_Account_L2 rec1 F n1 m4 x6 n n7 m8 m9 = some r ∧ e = Env.of [(1, .L p1), (4, .nil), (5, .nil), (6, .nil), (7, .nil), (8, .mp 119), (9, .mp 120), (10, .mp 121), (12, .sptr [.I x6.Bag, .I x6.Holder, .bool x6.Open, .L x6.Seals, .L x6.Packed, .L x6.Found]), (22, .lst 6 (List.map GBag.lv p0)), (23, .I (p0.length : Int)), (24, .I n1), (29, .L x6.Packed), (30, .I (x6.Packed.length : Int)), (31, .I n7)] ∧ m = Mem.of [(119, .map 3 4 (mlv LV.I LV.bool m8)), (120, .map 3 4 (mlv LV.I LV.bool m9)), (121, .map 3 4 (mlv LV.I LV.bool m4))]) F ⟨0, m2, m3, h, rfl, rfl⟩ ?_
   clear h
   rintro n e m ⟨n7, m8, m9, h, rfl, rfl⟩
   rcases n with _ | n
   · cases (show Option.none = some _ from h)
   obtain ⟨rec2, hrec2⟩ : ∃ f, f = custody_Account_L2 rec1 F n1 m4 x6 n := ⟨_, rfl⟩
   replace h : custody_Account_L2_B rec1 F n1 m4 x6 rec2 n7 m8 m9 = some r := hrec2 ▸ h
   unfold custody_Account_L2_B at h
   refine LH.seqT [(1, .L p1), (4, .nil), (5, .nil), (6, .nil), (7, .nil), (8, .mp 119), (9, .mp 120), (10, .mp 121), (12, .sptr [.I x6.Bag, .I x6.Holder, .bool x6.Open, .L x6.Seals, .L x6.Packed, .L x6.Found]), (22, .lst 6 (List.map GBag.lv p0)), (23, .I (p0.length : Int)), (24, .I n1), (29, .L x6.Packed), (30, .I (x6.Packed.length : Int)), (31, .I n7), (32, .bool (decide (n7 < (x6.Packed.length : Int))))] [(119, .map 3 4 (mlv LV.I LV.bool m8)), (120, .map 3 4 (mlv LV.I LV.bool m9)), (121, .map 3 4 (mlv LV.I LV.bool m4))] rfl ?_ ?_
   ·refine sN (oLt rfl rfl ?_)
    exact s0 (Wk.eq rfl rfl rfl rfl)
   refine LH.seq ?_
   refine LH.cond (t := (decide (n7 < (x6.Packed.length : Int)))) rfl (fun hc10 => ?_) (fun hc10 => ?_)
   ·replace h := iteT h hc10
    refine LH.skip ?_
    refine thenN ?_
    refine LH.wk (Wk.eq (el := [(1, .L p1), (4, .nil), (5, .nil), (6, .nil), (7, .nil), (8, .mp 119), (9, .mp 120), (10, .mp 121), (12, .sptr [.I x6.Bag, .I x6.Holder, .bool x6.Open, .L x6.Seals, .L x6.Packed, .L x6.Found]), (22, .lst 6 (List.map GBag.lv p0)), (23, .I (p0.length : Int)), (24, .I n1), (29, .L x6.Packed), (30, .I (x6.Packed.length : Int)), (31, .I n7)]) (ml := [(119, .map 3 4 (mlv LV.I LV.bool m8)), (120, .map 3 4 (mlv LV.I LV.bool m9)), (121, .map 3 4 (mlv LV.I LV.bool m4))]) rfl rfl rfl rfl) ?_
    refine LH.seq ?_
    refine LH.block ?_
    obtain ⟨x11, hx11, h⟩ := bindS h
    refine LH.seqT [(1, .L p1), (4, .nil), (5, .nil), (6, .nil), (7, .nil), (8, .mp 119), (9, .mp 120), (10, .mp 121), (12, .sptr [.I x6.Bag, .I x6.Holder, .bool x6.Open, .L x6.Seals, .L x6.Packed, .L x6.Found]), (14, .I x11), (22, .lst 6 (List.map GBag.lv p0)), (23, .I (p0.length : Int)), (24, .I n1), (29, .L x6.Packed), (30, .I (x6.Packed.length : Int)), (31, .I n7)] [(119, .map 3 4 (mlv LV.I LV.bool m8)), (120, .map 3 4 (mlv LV.I LV.bool m9)), (121, .map 3 4 (mlv LV.I LV.bool m4))] rfl ?_ ?_
    ·refine sN (oIx (f := LV.I) te22 tk3 ts3 rfl rfl okI hx11 rfl ?_)
     refine sN (oLd rfl tk3 ta3 ?_)
     refine sAi rfl ?_
     exact s0 (Wk.eq rfl rfl rfl rfl)
    refine LH.seqT [(1, .L p1), (4, .nil), (5, .nil), (6, .nil), (7, .nil), (8, .mp 119), (9, .mp 120), (10, .mp 121), (12, .sptr [.I x6.Bag, .I x6.Holder, .bool x6.Open, .L x6.Seals, .L x6.Packed, .L x6.Found]), (14, .I x11), (22, .lst 6 (List.map GBag.lv p0)), (23, .I (p0.length : Int)), (24, .I n1), (29, .L x6.Packed), (30, .I (x6.Packed.length : Int)), (31, .I n7)] [(119, .map 3 4 (mlv LV.I LV.bool (mput m8 x11 true))), (120, .map 3 4 (mlv LV.I LV.bool m9)), (121, .map 3 4 (mlv LV.I LV.bool m4))] rfl ?_ ?_
    ·refine sN (oM (v := (.mp _)) rfl ?_)
     refine sMi rfl ?_
     refine sX_ ((ok_update (f := LV.I) (g := LV.bool) (xs := m8) (key := x11) (val := true) (.inl rfl) tm74 kok3 kf3 (fun _ => rfl) rfl rfl rfl rfl).ok) ?_
     exact s0 (Wk.eq rfl rfl rfl rfl)
    refine LH.seqT [(1, .L p1), (4, .nil), (5, .nil), (6, .nil), (7, .nil), (8, .mp 119), (9, .mp 120), (10, .mp 121), (12, .sptr [.I x6.Bag, .I x6.Holder, .bool x6.Open, .L x6.Seals, .L x6.Packed, .L x6.Found]), (14, .I x11), (22, .lst 6 (List.map GBag.lv p0)), (23, .I (p0.length : Int)), (24, .I n1), (29, .L x6.Packed), (30, .I (x6.Packed.length : Int)), (31, .I n7), (38, .bool x6.Open)] [(119, .map 3 4 (mlv LV.I LV.bool (mput m8 x11 true))), (120, .map 3 4 (mlv LV.I LV.bool m9)), (121, .map 3 4 (mlv LV.I LV.bool m4))] rfl ?_ ?_
    ·refine sN (oFaS tf46_2 tk4 ts4 rfl rfl rfl ?_)
     refine sN (oLd rfl tk4 ta4 ?_)
     exact s0 (Wk.eq rfl rfl rfl rfl)
    refine LH.cond (t := x6.Open) rfl (fun hc12 => ?_) (fun hc12 => ?_)
    ·replace h := iteT h hc12
     refine LH.loneT [(1, .L p1), (4, .nil), (5, .nil), (6, .nil), (7, .nil), (8, .mp 119), (9, .mp 120), (10, .mp 121), (12, .sptr [.I x6.Bag, .I x6.Holder, .bool x6.Open, .L x6.Seals, .L x6.Packed, .L x6.Found]), (22, .lst 6 (List.map GBag.lv p0)), (23, .I (p0.length : Int)), (24, .I n1), (29, .L x6.Packed), (30, .I (x6.Packed.length : Int)), (31, .I n7)] [(119, .map 3 4 (mlv LV.I LV.bool (mput m8 x11 true))), (120, .map 3 4 (mlv LV.I LV.bool (mput m9 x11 true))), (121, .map 3 4 (mlv LV.I LV.bool m4))] rfl ?_ ?_
     ·refine sN (oM (v := (.mp _)) rfl ?_)
      refine sMi rfl ?_
      refine sX_ ((ok_update (f := LV.I) (g := LV.bool) (xs := m9) (key := x11) (val := true) (.inl rfl) tm74 kok3 kf3 (fun _ => rfl) rfl rfl rfl rfl).ok) ?_
      exact s0 (Wk.eq rfl rfl rfl rfl)
     refine blockN ?_
     refine thenN ?_
     refine LH.loneT [(1, .L p1), (4, .nil), (5, .nil), (6, .nil), (7, .nil), (8, .mp 119), (9, .mp 120), (10, .mp 121), (12, .sptr [.I x6.Bag, .I x6.Holder, .bool x6.Open, .L x6.Seals, .L x6.Packed, .L x6.Found]), (22, .lst 6 (List.map GBag.lv p0)), (23, .I (p0.length : Int)), (24, .I n1), (29, .L x6.Packed), (30, .I (x6.Packed.length : Int)), (31, .I (i64 (n7 + 1)))] [(119, .map 3 4 (mlv LV.I LV.bool (mput m8 x11 true))), (120, .map 3 4 (mlv LV.I LV.bool (mput m9 x11 true))), (121, .map 3 4 (mlv LV.I LV.bool m4))] rfl ?_ ?_
     ·refine sN (oAdd rfl rfl ?_)
      refine sMi rfl ?_
      exact s0 (Wk.eq rfl rfl rfl rfl)
     exact roundI ⟨(i64 (n7 + 1)), (mput m8 x11 true), (mput m9 x11 true), hrec2 ▸ h, rfl, rfl⟩ (Wk.eq rfl rfl rfl rfl)
    replace h := iteF h hc12
    refine LH.skip ?_
    refine blockN ?_
    refine thenN ?_
    refine LH.loneT [(1, .L p1), (4, .nil), (5, .nil), (6, .nil), (7, .nil), (8, .mp 119), (9, .mp 120), (10, .mp 121), (12, .sptr [.I x6.Bag, .I x6.Holder, .bool x6.Open, .L x6.Seals, .L x6.Packed, .L x6.Found]), (22, .lst 6 (List.map GBag.lv p0)), (23, .I (p0.length : Int)), (24, .I n1), (29, .L x6.Packed), (30, .I (x6.Packed.length : Int)), (31, .I (i64 (n7 + 1)))] [(119, .map 3 4 (mlv LV.I LV.bool (mput m8 x11 true))), (120, .map 3 4 (mlv LV.I LV.bool m9)), (121, .map 3 4 (mlv LV.I LV.bool m4))] rfl ?_ ?_
    ·refine sN (oAdd rfl rfl ?_)
     refine sMi rfl ?_
     exact s0 (Wk.eq rfl rfl rfl rfl)
    exact roundI ⟨(i64 (n7 + 1)), (mput m8 x11 true), m9, hrec2 ▸ h, rfl, rfl⟩ (Wk.eq rfl rfl rfl rfl)
   replace h := iteF h hc10
   refine LH.exit ?_
   refine thenX ?_
   refine roundX ?_
   refine blockH ?_
   refine thenN ?_
   refine LH.seqT [(1, .L p1), (4, .nil), (5, .nil), (6, .nil), (7, .nil), (8, .mp 119), (9, .mp 120), (10, .mp 121), (22, .lst 6 (List.map GBag.lv p0)), (23, .I (p0.length : Int)), (24, .I n1), (43, .L x6.Found), (44, .I (x6.Found.length : Int)), (45, .I 0)] [(119, .map 3 4 (mlv LV.I LV.bool m8)), (120, .map 3 4 (mlv LV.I LV.bool m9)), (121, .map 3 4 (mlv LV.I LV.bool m4))] rfl ?_ ?_
   ·refine sN (oFaS tf46_5 tk22 ts22 rfl rfl rfl ?_)
    refine sN (oLd rfl tk22 ta22 ?_)
    refine sN (oLnL (f := LV.I) te22 rfl ?_)
    refine sMi rfl ?_
    exact s0 (Wk.eq rfl rfl rfl rfl)
   refine LH.block ?_
   refine LH.loop (fun n e m => ∃ (n13 : Int) (m14 : List (Int × Bool)), custody_Account_L3 rec1 n1 x6 m8 m9 n n13 m14 = some r ∧ e = Env.of [(1, .L p1), (4, .nil), (5, .nil), (6, .nil), (7, .nil), (8, .mp 119), (9, .mp 120), (10, .mp 121), (22, .lst 6 (List.map GBag.lv p0)), (23, .I (p0.length : Int)), (24, .I n1), (43, .L x6.Found), (44, .I (x6.Found.length : Int)), (45, .I n13)] ∧ m = Mem.of [(119, .map 3 4 (mlv LV.I LV.bool m8)), (120, .map 3 4 (mlv LV.I LV.bool m9)), (121, .map 3 4 (mlv LV.I LV.bool m14))]) F ⟨0, m4, h, rfl, rfl⟩ ?_
   clear h
   rintro n e m ⟨n13, m14, h, rfl, rfl⟩
   rcases n with _ | n
   · cases (show Option.none = some _ from h)
   obtain ⟨rec3, hrec3⟩ : ∃ f, f = custody_Account_L3 rec1 n1 x6 m8 m9 n := ⟨_, rfl⟩
   replace h : custody_Account_L3_B rec1 n1 x6 m8 m9 rec3 n13 m14 = some r := hrec3 ▸ h
   unfold custody_Account_L3_B at h
   refine LH.seqT [(1, .L p1), (4, .nil), (5, .nil), (6, .nil), (7, .nil), (8, .mp 119), (9, .mp 120), (10, .mp 121), (22, .lst 6 (List.map GBag.lv p0)), (23, .I (p0.length : Int)), (24, .I n1), (43, .L x6.Found), (44, .I (x6.Found.length : Int)), (45, .I n13), (46, .bool (decide (n13 < (x6.Found.length : Int))))] [(119, .map 3 4 (mlv LV.I LV.bool m8)), (120, .map 3 4 (mlv LV.I LV.bool m9)), (121, .map 3 4 (mlv LV.I LV.bool m14))] rfl ?_ ?_
   ·refine sN (oLt rfl rfl ?_)
    exact s0 (Wk.eq rfl rfl rfl rfl)
   refine LH.seq ?_
   refine LH.cond (t := (decide (n13 < (x6.Found.length : Int)))) rfl (fun hc15 => ?_) (fun hc15 => ?_)
   ·replace h := iteT h hc15
    refine LH.skip ?_
    refine thenN ?_
    refine LH.wk (Wk.eq (el := [(1, .L p1), (4, .nil), (5, .nil), (6, .nil), (7, .nil), (8, .mp 119), (9, .mp 120), (10, .mp 121), (22, .lst 6 (List.map GBag.lv p0)), (23, .I (p0.length : Int)), (24, .I n1), (43, .L x6.Found), (44, .I (x6.Found.length : Int)), (45, .I n13)]) (ml := [(119, .map 3 4 (mlv LV.I LV.bool m8)), (120, .map 3 4 (mlv LV.I LV.bool m9)), (121, .map 3 4 (mlv LV.I LV.bool m14))]) rfl rfl rfl rfl) ?_
    refine LH.seq ?_
    refine LH.block ?_
    obtain ⟨x16, hx16, h⟩ := bindS h
    refine LH.seqT [(1, .L p1), (4, .nil), (5, .nil), (6, .nil), (7, .nil), (8, .mp 119), (9, .mp 120), (10, .mp 121), (16, .I x16), (22, .lst 6 (List.map GBag.lv p0)), (23, .I (p0.length : Int)), (24, .I n1), (43, .L x6.Found), (44, .I (x6.Found.length : Int)), (45, .I n13)] [(119, .map 3 4 (mlv LV.I LV.bool m8)), (120, .map 3 4 (mlv LV.I LV.bool m9)), (121, .map 3 4 (mlv LV.I LV.bool m14))] rfl ?_ ?_
    ·refine sN (oIx (f := LV.I) te22 tk3 ts3 rfl rfl okI hx16 rfl ?_)
     refine sN (oLd rfl tk3 ta3 ?_)
     refine sAi rfl ?_
     exact s0 (Wk.eq rfl rfl rfl rfl)
    refine LH.loneT [(1, .L p1), (4, .nil), (5, .nil), (6, .nil), (7, .nil), (8, .mp 119), (9, .mp 120), (10, .mp 121), (22, .lst 6 (List.map GBag.lv p0)), (23, .I (p0.length : Int)), (24, .I n1), (43, .L x6.Found), (44, .I (x6.Found.length : Int)), (45, .I n13)] [(119, .map 3 4 (mlv LV.I LV.bool m8)), (120, .map 3 4 (mlv LV.I LV.bool m9)), (121, .map 3 4 (mlv LV.I LV.bool (mput m14 x16 true)))] rfl ?_ ?_
    ·refine sN (oM (v := (.mp _)) rfl ?_)
     refine sMi rfl ?_
     refine sX_ ((ok_update (f := LV.I) (g := LV.bool) (xs := m14) (key := x16) (val := true) (.inl rfl) tm74 kok3 kf3 (fun _ => rfl) rfl rfl rfl rfl).ok) ?_
     exact s0 (Wk.eq rfl rfl rfl rfl)
    refine blockN ?_
    refine thenN ?_
    refine LH.loneT [(1, .L p1), (4, .nil), (5, .nil), (6, .nil), (7, .nil), (8, .mp 119), (9, .mp 120), (10, .mp 121), (22, .lst 6 (List.map GBag.lv p0)), (23, .I (p0.length : Int)), (24, .I n1), (43, .L x6.Found), (44, .I (x6.Found.length : Int)), (45, .I (i64 (n13 + 1)))] [(119, .map 3 4 (mlv LV.I LV.bool m8)), (120, .map 3 4 (mlv LV.I LV.bool m9)), (121, .map 3 4 (mlv LV.I LV.bool (mput m14 x16 true)))] rfl ?_ ?_
    ·refine sN (oAdd rfl rfl ?_)
     refine sMi rfl ?_
     exact s0 (Wk.eq rfl rfl rfl rfl)
    exact roundI ⟨(i64 (n13 + 1)), (mput m14 x16 true), hrec3 ▸ h, rfl, rfl⟩ (Wk.eq rfl rfl rfl rfl)
   replace h := iteF h hc15
   refine LH.exit ?_
   refine thenX ?_
   refine roundX ?_
   refine blockH ?_
   refine blockN ?_
   refine thenN ?_
   refine LH.loneT [(1, .L p1), (4, .nil), (5, .nil), (6, .nil), (7, .nil), (8, .mp 119), (9, .mp 120), (10, .mp 121), (22, .lst 6 (List.map GBag.lv p0)), (23, .I (p0.length : Int)), (24, .I (i64 (n1 + 1)))] [(119, .map 3 4 (mlv LV.I LV.bool m8)), (120, .map 3 4 (mlv LV.I LV.bool m9)), (121, .map 3 4 (mlv LV.I LV.bool m14))] rfl ?_ ?_
   ·refine sN (oAdd rfl rfl ?_)
    refine sMi rfl ?_
    exact s0 (Wk.eq rfl rfl rfl rfl)
   exact roundI ⟨(i64 (n1 + 1)), m8, m9, m14, hrec1 ▸ h, rfl, rfl⟩ (Wk.eq rfl rfl rfl rfl)
  replace h := iteF h hc5
  refine LH.exit ?_
  refine thenX ?_
  refine roundX ?_
  refine blockH ?_
  refine thenN ?_
  refine LH.wk (Wk.eq (el := [(1, .L p1), (4, .nil), (5, .nil), (6, .nil), (7, .nil), (8, .mp 119), (9, .mp 120), (10, .mp 121)]) (ml := [(119, .map 3 4 (mlv LV.I LV.bool m2)), (120, .map 3 4 (mlv LV.I LV.bool m3)), (121, .map 3 4 (mlv LV.I LV.bool m4))]) rfl rfl rfl rfl) ?_
  refine LH.seq ?_
  refine LH.seqT [(4, .nil), (5, .nil), (6, .nil), (7, .nil), (8, .mp 119), (9, .mp 120), (10, .mp 121), (53, .L p1), (54, .I (p1.length : Int)), (55, .I 0)] [(119, .map 3 4 (mlv LV.I LV.bool m2)), (120, .map 3 4 (mlv LV.I LV.bool m3)), (121, .map 3 4 (mlv LV.I LV.bool m4))] rfl ?_ ?_
  ·refine sMl rfl ?_
   refine sN (oLnL (f := LV.I) te22 rfl ?_)
   refine sMi rfl ?_
   exact s0 (Wk.eq rfl rfl rfl rfl)
  refine LH.block ?_
  refine LH.wk ((Wk.trans (Wk.eq (el := [(4, .nil), (5, .nil), (6, .nil), (7, .nil), (8, .mp 119), (9, .mp 120), (10, .mp 121), (53, .L p1), (54, .I (p1.length : Int)), (55, .I 0)]) (ml := [(119, .map 3 4 (mlv LV.I LV.bool m2)), (120, .map 3 4 (mlv LV.I LV.bool m3)), (121, .map 3 4 (mlv LV.I LV.bool m4))]) rfl rfl rfl rfl) (Wk.trans (Wk.eq (el := [(4, .nil), (5, .nil), (6, .nil), (7, .nil), (8, .mp 119), (9, .mp 120), (10, .mp 121), (53, .L p1), (54, .I (p1.length : Int)), (55, .I 0)]) (ml := [(119, .map 3 4 (mlv LV.I LV.bool m2)), (120, .map 3 4 (mlv LV.I LV.bool m3)), (121, .map 3 4 (mlv LV.I LV.bool m4))]) rfl rfl rfl rfl) (Wk.trans (Wk.ownL (el' := [(4, .arr 162 (List.length ([] : List Int))), (5, .nil), (6, .nil), (7, .nil), (8, .mp 119), (9, .mp 120), (10, .mp 121), (53, .L p1), (54, .I (p1.length : Int)), (55, .I 0)]) 162 3 1 rfl rfl (wO (wK (wK (wK (wK (wK (wK (wK (wK (wK wN))))))))))) (Wk.trans (Wk.eq (el := [(4, .arr 162 (List.length ([] : List Int))), (5, .nil), (6, .nil), (7, .nil), (8, .mp 119), (9, .mp 120), (10, .mp 121), (53, .L p1), (54, .I (p1.length : Int)), (55, .I 0)]) (ml := [(119, .map 3 4 (mlv LV.I LV.bool m2)), (120, .map 3 4 (mlv LV.I LV.bool m3)), (121, .map 3 4 (mlv LV.I LV.bool m4)), (162, .arr 3 1 (List.map LV.I ([] : List Int)))]) rfl rfl rfl rfl) (Wk.trans (Wk.ownL (el' := [(4, .arr 162 (List.length ([] : List Int))), (5, .nil), (6, .arr 170 (List.length ([] : List Int))), (7, .nil), (8, .mp 119), (9, .mp 120), (10, .mp 121), (53, .L p1), (54, .I (p1.length : Int)), (55, .I 0)]) 170 3 1 rfl rfl (wK (wK (wO (wK (wK (wK (wK (wK (wK (wK wN))))))))))) (Wk.trans (Wk.eq (el := [(4, .arr 162 (List.length ([] : List Int))), (5, .nil), (6, .arr 170 (List.length ([] : List Int))), (7, .nil), (8, .mp 119), (9, .mp 120), (10, .mp 121), (53, .L p1), (54, .I (p1.length : Int)), (55, .I 0)]) (ml := [(119, .map 3 4 (mlv LV.I LV.bool m2)), (120, .map 3 4 (mlv LV.I LV.bool m3)), (121, .map 3 4 (mlv LV.I LV.bool m4)), (162, .arr 3 1 (List.map LV.I ([] : List Int))), (170, .arr 3 1 (List.map LV.I ([] : List Int)))]) rfl rfl rfl rfl) (Wk.trans (Wk.ownL (el' := [(4, .arr 162 (List.length ([] : List Int))), (5, .nil), (6, .arr 170 (List.length ([] : List Int))), (7, .arr 178 (List.length ([] : List Int))), (8, .mp 119), (9, .mp 120), (10, .mp 121), (53, .L p1), (54, .I (p1.length : Int)), (55, .I 0)]) 178 3 1 rfl rfl (wK (wK (wK (wO (wK (wK (wK (wK (wK (wK wN))))))))))) (Wk.trans (Wk.eq (el := [(4, .arr 162 (List.length ([] : List Int))), (5, .nil), (6, .arr 170 (List.length ([] : List Int))), (7, .arr 178 (List.length ([] : List Int))), (8, .mp 119), (9, .mp 120), (10, .mp 121), (53, .L p1), (54, .I (p1.length : Int)), (55, .I 0)]) (ml := [(119, .map 3 4 (mlv LV.I LV.bool m2)), (120, .map 3 4 (mlv LV.I LV.bool m3)), (121, .map 3 4 (mlv LV.I LV.bool m4)), (162, .arr 3 1 (List.map LV.I ([] : List Int))), (170, .arr 3 1 (List.map LV.I ([] : List Int))), (178, .arr 3 1 (List.map LV.I ([] : List Int)))]) rfl rfl rfl rfl) (Wk.trans (Wk.ownL (el' := [(4, .arr 162 (List.length ([] : List Int))), (5, .arr 186 (List.length ([] : List Int))), (6, .arr 170 (List.length ([] : List Int))), (7, .arr 178 (List.length ([] : List Int))), (8, .mp 119), (9, .mp 120), (10, .mp 121), (53, .L p1), (54, .I (p1.length : Int)), (55, .I 0)]) 186 3 1 rfl rfl (wK (wO (wK (wK (wK (wK (wK (wK (wK (wK wN))))))))))) (Wk.eq (el := [(4, .arr 162 (List.length ([] : List Int))), (5, .arr 186 (List.length ([] : List Int))), (6, .arr 170 (List.length ([] : List Int))), (7, .arr 178 (List.length ([] : List Int))), (8, .mp 119), (9, .mp 120), (10, .mp 121), (53, .L p1), (54, .I (p1.length : Int)), (55, .I 0)]) (ml := [(119, .map 3 4 (mlv LV.I LV.bool m2)), (120, .map 3 4 (mlv LV.I LV.bool m3)), (121, .map 3 4 (mlv LV.I LV.bool m4)), (162, .arr 3 1 (List.map LV.I ([] : List Int))), (170, .arr 3 1 (List.map LV.I ([] : List Int))), (178, .arr 3 1 (List.map LV.I ([] : List Int))), (186, .arr 3 1 (List.map LV.I ([] : List Int)))]) rfl rfl rfl rfl))))))))))) ?_
  refine LH.loop (fun n e m => ∃ (n17 : Int) (l18 : List Int) (l19 : List Int) (l20 : List Int) (l21 : List Int), custody_Account_L4 p1 m2 m3 m4 n n17 l18 l19 l20 l21 = some r ∧ e = Env.of [(4, .arr 162 (List.length l18)), (5, .arr 186 (List.length l21)), (6, .arr 170 (List.length l19)), (7, .arr 178 (List.length l20)), (8, .mp 119), (9, .mp 120), (10, .mp 121), (53, .L p1), (54, .I (p1.length : Int)), (55, .I n17)] ∧ m = Mem.of [(119, .map 3 4 (mlv LV.I LV.bool m2)), (120, .map 3 4 (mlv LV.I LV.bool m3)), (121, .map 3 4 (mlv LV.I LV.bool m4)), (162, .arr 3 1 (List.map LV.I l18)), (170, .arr 3 1 (List.map LV.I l19)), (178, .arr 3 1 (List.map LV.I l20)), (186, .arr 3 1 (List.map LV.I l21))]) F ⟨0, ([] : List Int), ([] : List Int), ([] : List Int), ([] : List Int), h, rfl, rfl⟩ ?_
  clear h
  rintro n e m ⟨n17, l18, l19, l20, l21, h, rfl, rfl⟩
  rcases n with _ | n
  · cases (show Option.none = some _ from h)
  obtain ⟨rec4, hrec4⟩ : ∃ f, f = custody_Account_L4 p1 m2 m3 m4 n := ⟨_, rfl⟩
  replace h : custody_Account_L4_B p1 m2 m3 m4 rec4 n17 l18 l19 l20 l21 = some r := hrec4 ▸ h
  unfold custody_Account_L4_B at h
  refine LH.seqT [(4, .arr 162 (List.length l18)), (5, .arr 186 (List.length l21)), (6, .arr 170 (List.length l19)), (7, .arr 178 (List.length l20)), (8, .mp 119), (9, .mp 120), (10, .mp 121), (53, .L p1), (54, .I (p1.length : Int)), (55, .I n17), (56, .bool (decide (n17 < (p1.length : Int))))] [(119, .map 3 4 (mlv LV.I LV.bool m2)), (120, .map 3 4 (mlv LV.I LV.bool m3)), (121, .map 3 4 (mlv LV.I LV.bool m4)), (162, .arr 3 1 (List.map LV.I l18)), (170, .arr 3 1 (List.map LV.I l19)), (178, .arr 3 1 (List.map LV.I l20)), (186, .arr 3 1 (List.map LV.I l21))] rfl ?_ ?_
  ·refine sN (oLt rfl rfl ?_)
   exact s0 (Wk.eq rfl rfl rfl rfl)
  refine LH.seq ?_
  refine LH.cond (t := (decide (n17 < (p1.length : Int)))) rfl (fun hc22 => ?_) (fun hc22 => ?_)
  ·replace h := iteT h hc22
   refine LH.skip ?_
   refine thenN ?_
   refine LH.wk (Wk.eq (el := [(4, .arr 162 (List.length l18)), (5, .arr 186 (List.length l21)), (6, .arr 170 (List.length l19)), (7, .arr 178 (List.length l20)), (8, .mp 119), (9, .mp 120), (10, .mp 121), (53, .L p1), (54, .I (p1.length : Int)), (55, .I n17)]) (ml := [(119, .map 3 4 (mlv LV.I LV.bool m2)), (120, .map 3 4 (mlv LV.I LV.bool m3)), (121, .map 3 4 (mlv LV.I LV.bool m4)), (162, .arr 3 1 (List.map LV.I l18)), (170, .arr 3 1 (List.map LV.I l19)), (178, .arr 3 1 (List.map LV.I l20)), (186, .arr 3 1 (List.map LV.I l21))]) rfl rfl rfl rfl) ?_
   refine LH.seq ?_
   refine LH.block ?_
   obtain ⟨x23, hx23, h⟩ := bindS h
   refine LH.seqT [(4, .arr 162 (List.length l18)), (5, .arr 186 (List.length l21)), (6, .arr 170 (List.length l19)), (7, .arr 178 (List.length l20)), (8, .mp 119), (9, .mp 120), (10, .mp 121), (18, .I x23), (53, .L p1), (54, .I (p1.length : Int)), (55, .I n17)] [(119, .map 3 4 (mlv LV.I LV.bool m2)), (120, .map 3 4 (mlv LV.I LV.bool m3)), (121, .map 3 4 (mlv LV.I LV.bool m4)), (162, .arr 3 1 (List.map LV.I l18)), (170, .arr 3 1 (List.map LV.I l19)), (178, .arr 3 1 (List.map LV.I l20)), (186, .arr 3 1 (List.map LV.I l21))] rfl ?_ ?_
   ·refine sN (oIx (f := LV.I) te22 tk3 ts3 rfl rfl okI hx23 rfl ?_)
    refine sN (oLd rfl tk3 ta3 ?_)
    refine sAi rfl ?_
    exact s0 (Wk.eq rfl rfl rfl rfl)
   refine LH.block ?_
   refine LH.seqT [(4, .arr 162 (List.length l18)), (5, .arr 186 (List.length l21)), (6, .arr 170 (List.length l19)), (7, .arr 178 (List.length l20)), (8, .mp 119), (9, .mp 120), (10, .mp 121), (18, .I x23), (53, .L p1), (54, .I (p1.length : Int)), (55, .I n17), (63, .bool ((mget m4 x23).getD false))] [(119, .map 3 4 (mlv LV.I LV.bool m2)), (120, .map 3 4 (mlv LV.I LV.bool m3)), (121, .map 3 4 (mlv LV.I LV.bool m4)), (162, .arr 3 1 (List.map LV.I l18)), (170, .arr 3 1 (List.map LV.I l19)), (178, .arr 3 1 (List.map LV.I l20)), (186, .arr 3 1 (List.map LV.I l21))] rfl ?_ ?_
   ·refine sN (oM (v := (.mp _)) rfl ?_)
    refine sMi rfl ?_
    refine sX ((ok_lookup (f := LV.I) (g := LV.bool) (xs := m4) (key := x23) (z := false) tm74 kok3 kf3 rfl rfl rfl tz4).ok) ?_
    refine sAb rfl ?_
    exact s0 (Wk.eq rfl rfl rfl rfl)
   refine LH.cond (t := ((mget m4 x23).getD false)) rfl (fun hc24 => ?_) (fun hc24 => ?_)
   ·replace h := iteT h hc24
    obtain ⟨v25, hv25, h⟩ := bindS h
    refine LH.loneT [(4, .arr 162 (List.length l18)), (5, .arr 186 (List.length l21)), (6, .arr 170 (List.length v25)), (7, .arr 178 (List.length l20)), (8, .mp 119), (9, .mp 120), (10, .mp 121), (53, .L p1), (54, .I (p1.length : Int)), (55, .I n17)] [(119, .map 3 4 (mlv LV.I LV.bool m2)), (120, .map 3 4 (mlv LV.I LV.bool m3)), (121, .map 3 4 (mlv LV.I LV.bool m4)), (162, .arr 3 1 (List.map LV.I l18)), (170, .arr 3 1 (List.map LV.I v25)), (178, .arr 3 1 (List.map LV.I l20)), (186, .arr 3 1 (List.map LV.I l21))] rfl ?_ ?_
    ·refine sMa rfl ?_
     refine sMi rfl ?_
     refine sN (oBS (f := LV.I) (ys := [x23]) te22 tr3 ts3 rfl rfl rfl okI ?_)
     refine sN (oAp (f := LV.I) te22 tr3 ts3 rfl rfl (prN rfl) rfl hv25 ?_)
     refine sAa rfl ?_
     exact s0 (Wk.eq rfl rfl rfl rfl)
    refine blockN ?_
    refine blockN ?_
    refine thenN ?_
    refine LH.loneT [(4, .arr 162 (List.length l18)), (5, .arr 186 (List.length l21)), (6, .arr 170 (List.length v25)), (7, .arr 178 (List.length l20)), (8, .mp 119), (9, .mp 120), (10, .mp 121), (53, .L p1), (54, .I (p1.length : Int)), (55, .I (i64 (n17 + 1)))] [(119, .map 3 4 (mlv LV.I LV.bool m2)), (120, .map 3 4 (mlv LV.I LV.bool m3)), (121, .map 3 4 (mlv LV.I LV.bool m4)), (162, .arr 3 1 (List.map LV.I l18)), (170, .arr 3 1 (List.map LV.I v25)), (178, .arr 3 1 (List.map LV.I l20)), (186, .arr 3 1 (List.map LV.I l21))] rfl ?_ ?_
    ·refine sN (oAdd rfl rfl ?_)
     refine sMi rfl ?_
     exact s0 (Wk.eq rfl rfl rfl rfl)
    exact roundI ⟨(i64 (n17 + 1)), l18, v25, l20, l21, hrec4 ▸ h, rfl, rfl⟩ (Wk.eq rfl rfl rfl rfl)
   replace h := iteF h hc24
   refine LH.seqT [(4, .arr 162 (List.length l18)), (5, .arr 186 (List.length l21)), (6, .arr 170 (List.length l19)), (7, .arr 178 (List.length l20)), (8, .mp 119), (9, .mp 120), (10, .mp 121), (18, .I x23), (53, .L p1), (54, .I (p1.length : Int)), (55, .I n17), (71, .bool ((mget m3 x23).getD false))] [(119, .map 3 4 (mlv LV.I LV.bool m2)), (120, .map 3 4 (mlv LV.I LV.bool m3)), (121, .map 3 4 (mlv LV.I LV.bool m4)), (162, .arr 3 1 (List.map LV.I l18)), (170, .arr 3 1 (List.map LV.I l19)), (178, .arr 3 1 (List.map LV.I l20)), (186, .arr 3 1 (List.map LV.I l21))] rfl ?_ ?_
   ·refine sN (oM (v := (.mp _)) rfl ?_)
    refine sMi rfl ?_
    refine sX ((ok_lookup (f := LV.I) (g := LV.bool) (xs := m3) (key := x23) (z := false) tm74 kok3 kf3 rfl rfl rfl tz4).ok) ?_
    refine sAb rfl ?_
    exact s0 (Wk.eq rfl rfl rfl rfl)
   refine LH.cond (t := ((mget m3 x23).getD false)) rfl (fun hc26 => ?_) (fun hc26 => ?_)
   ·replace h := iteT h hc26
    obtain ⟨v27, hv27, h⟩ := bindS h
    refine LH.loneT [(4, .arr 162 (List.length l18)), (5, .arr 186 (List.length l21)), (6, .arr 170 (List.length l19)), (7, .arr 178 (List.length v27)), (8, .mp 119), (9, .mp 120), (10, .mp 121), (53, .L p1), (54, .I (p1.length : Int)), (55, .I n17)] [(119, .map 3 4 (mlv LV.I LV.bool m2)), (120, .map 3 4 (mlv LV.I LV.bool m3)), (121, .map 3 4 (mlv LV.I LV.bool m4)), (162, .arr 3 1 (List.map LV.I l18)), (170, .arr 3 1 (List.map LV.I l19)), (178, .arr 3 1 (List.map LV.I v27)), (186, .arr 3 1 (List.map LV.I l21))] rfl ?_ ?_
    ·refine sMa rfl ?_
     refine sMi rfl ?_
     refine sN (oBS (f := LV.I) (ys := [x23]) te22 tr3 ts3 rfl rfl rfl okI ?_)
     refine sN (oAp (f := LV.I) te22 tr3 ts3 rfl rfl (prN rfl) rfl hv27 ?_)
     refine sAa rfl ?_
     exact s0 (Wk.eq rfl rfl rfl rfl)
    refine blockN ?_
    refine blockN ?_
    refine thenN ?_
    refine LH.loneT [(4, .arr 162 (List.length l18)), (5, .arr 186 (List.length l21)), (6, .arr 170 (List.length l19)), (7, .arr 178 (List.length v27)), (8, .mp 119), (9, .mp 120), (10, .mp 121), (53, .L p1), (54, .I (p1.length : Int)), (55, .I (i64 (n17 + 1)))] [(119, .map 3 4 (mlv LV.I LV.bool m2)), (120, .map 3 4 (mlv LV.I LV.bool m3)), (121, .map 3 4 (mlv LV.I LV.bool m4)), (162, .arr 3 1 (List.map LV.I l18)), (170, .arr 3 1 (List.map LV.I l19)), (178, .arr 3 1 (List.map LV.I v27)), (186, .arr 3 1 (List.map LV.I l21))] rfl ?_ ?_
    ·refine sN (oAdd rfl rfl ?_)
     refine sMi rfl ?_
     exact s0 (Wk.eq rfl rfl rfl rfl)
    exact roundI ⟨(i64 (n17 + 1)), l18, l19, v27, l21, hrec4 ▸ h, rfl, rfl⟩ (Wk.eq rfl rfl rfl rfl)
   replace h := iteF h hc26
   refine LH.seqT [(4, .arr 162 (List.length l18)), (5, .arr 186 (List.length l21)), (6, .arr 170 (List.length l19)), (7, .arr 178 (List.length l20)), (8, .mp 119), (9, .mp 120), (10, .mp 121), (18, .I x23), (53, .L p1), (54, .I (p1.length : Int)), (55, .I n17), (79, .bool ((mget m2 x23).getD false))] [(119, .map 3 4 (mlv LV.I LV.bool m2)), (120, .map 3 4 (mlv LV.I LV.bool m3)), (121, .map 3 4 (mlv LV.I LV.bool m4)), (162, .arr 3 1 (List.map LV.I l18)), (170, .arr 3 1 (List.map LV.I l19)), (178, .arr 3 1 (List.map LV.I l20)), (186, .arr 3 1 (List.map LV.I l21))] rfl ?_ ?_
   ·refine sN (oM (v := (.mp _)) rfl ?_)
    refine sMi rfl ?_
    refine sX ((ok_lookup (f := LV.I) (g := LV.bool) (xs := m2) (key := x23) (z := false) tm74 kok3 kf3 rfl rfl rfl tz4).ok) ?_
    refine sAb rfl ?_
    exact s0 (Wk.eq rfl rfl rfl rfl)
   refine LH.cond (t := ((mget m2 x23).getD false)) rfl (fun hc28 => ?_) (fun hc28 => ?_)
   ·replace h := iteT h hc28
    obtain ⟨v29, hv29, h⟩ := bindS h
    refine LH.loneT [(4, .arr 162 (List.length l18)), (5, .arr 186 (List.length v29)), (6, .arr 170 (List.length l19)), (7, .arr 178 (List.length l20)), (8, .mp 119), (9, .mp 120), (10, .mp 121), (53, .L p1), (54, .I (p1.length : Int)), (55, .I n17)] [(119, .map 3 4 (mlv LV.I LV.bool m2)), (120, .map 3 4 (mlv LV.I LV.bool m3)), (121, .map 3 4 (mlv LV.I LV.bool m4)), (162, .arr 3 1 (List.map LV.I l18)), (170, .arr 3 1 (List.map LV.I l19)), (178, .arr 3 1 (List.map LV.I l20)), (186, .arr 3 1 (List.map LV.I v29))] rfl ?_ ?_
    ·refine sMa rfl ?_
     refine sMi rfl ?_
     refine sN (oBS (f := LV.I) (ys := [x23]) te22 tr3 ts3 rfl rfl rfl okI ?_)
     refine sN (oAp (f := LV.I) te22 tr3 ts3 rfl rfl (prN rfl) rfl hv29 ?_)
     refine sAa rfl ?_
     exact s0 (Wk.eq rfl rfl rfl rfl)
    refine blockN ?_
    refine blockN ?_
    refine thenN ?_
    refine LH.loneT [(4, .arr 162 (List.length l18)), (5, .arr 186 (List.length v29)), (6, .arr 170 (List.length l19)), (7, .arr 178 (List.length l20)), (8, .mp 119), (9, .mp 120), (10, .mp 121), (53, .L p1), (54, .I (p1.length : Int)), (55, .I (i64 (n17 + 1)))] [(119, .map 3 4 (mlv LV.I LV.bool m2)), (120, .map 3 4 (mlv LV.I LV.bool m3)), (121, .map 3 4 (mlv LV.I LV.bool m4)), (162, .arr 3 1 (List.map LV.I l18)), (170, .arr 3 1 (List.map LV.I l19)), (178, .arr 3 1 (List.map LV.I l20)), (186, .arr 3 1 (List.map LV.I v29))] rfl ?_ ?_
    ·refine sN (oAdd rfl rfl ?_)
     refine sMi rfl ?_
     exact s0 (Wk.eq rfl rfl rfl rfl)
    exact roundI ⟨(i64 (n17 + 1)), l18, l19, l20, v29, hrec4 ▸ h, rfl, rfl⟩ (Wk.eq rfl rfl rfl rfl)
   replace h := iteF h hc28
   obtain ⟨v30, hv30, h⟩ := bindS h
   refine LH.loneT [(4, .arr 162 (List.length v30)), (5, .arr 186 (List.length l21)), (6, .arr 170 (List.length l19)), (7, .arr 178 (List.length l20)), (8, .mp 119), (9, .mp 120), (10, .mp 121), (53, .L p1), (54, .I (p1.length : Int)), (55, .I n17)] [(119, .map 3 4 (mlv LV.I LV.bool m2)), (120, .map 3 4 (mlv LV.I LV.bool m3)), (121, .map 3 4 (mlv LV.I LV.bool m4)), (162, .arr 3 1 (List.map LV.I v30)), (170, .arr 3 1 (List.map LV.I l19)), (178, .arr 3 1 (List.map LV.I l20)), (186, .arr 3 1 (List.map LV.I l21))] rfl ?_ ?_
   ·refine sMa rfl ?_
    refine sMi rfl ?_
    refine sN (oBS (f := LV.I) (ys := [x23]) te22 tr3 ts3 rfl rfl rfl okI ?_)
    refine sN (oAp (f := LV.I) te22 tr3 ts3 rfl rfl (prN rfl) rfl hv30 ?_)
    refine sAa rfl ?_
    exact s0 (Wk.eq rfl rfl rfl rfl)
   refine blockN ?_
   refine blockN ?_
   refine thenN ?_
   refine LH.loneT [(4, .arr 162 (List.length v30)), (5, .arr 186 (List.length l21)), (6, .arr 170 (List.length l19)), (7, .arr 178 (List.length l20)), (8, .mp 119), (9, .mp 120), (10, .mp 121), (53, .L p1), (54, .I (p1.length : Int)), (55, .I (i64 (n17 + 1)))] [(119, .map 3 4 (mlv LV.I LV.bool m2)), (120, .map 3 4 (mlv LV.I LV.bool m3)), (121, .map 3 4 (mlv LV.I LV.bool m4)), (162, .arr 3 1 (List.map LV.I v30)), (170, .arr 3 1 (List.map LV.I l19)), (178, .arr 3 1 (List.map LV.I l20)), (186, .arr 3 1 (List.map LV.I l21))] rfl ?_ ?_
   ·refine sN (oAdd rfl rfl ?_)
    refine sMi rfl ?_
    exact s0 (Wk.eq rfl rfl rfl rfl)
   exact roundI ⟨(i64 (n17 + 1)), v30, l19, l20, l21, hrec4 ▸ h, rfl, rfl⟩ (Wk.eq rfl rfl rfl rfl)
  replace h := iteF h hc22
  refine LH.exit ?_
  refine thenX ?_
  refine roundX ?_
  refine blockH ?_
  refine thenN ?_
  refine LH.wk ((Wk.trans (Wk.eq (el := [(4, .arr 162 (List.length l18)), (5, .arr 186 (List.length l21)), (6, .arr 170 (List.length l19)), (7, .arr 178 (List.length l20))]) (ml := [(162, .arr 3 1 (List.map LV.I l18)), (170, .arr 3 1 (List.map LV.I l19)), (178, .arr 3 1 (List.map LV.I l20)), (186, .arr 3 1 (List.map LV.I l21))]) rfl rfl rfl rfl) (Wk.trans (Wk.frzL (f := LV.I) (el' := [(4, .L l18), (5, .arr 186 (List.length l21)), (6, .arr 170 (List.length l19)), (7, .arr 178 (List.length l20))]) 162 3 1 l18 rfl rfl (prN rfl) (fZ (fK rfl (fK rfl (fK rfl fN))))) (Wk.trans (Wk.frzL (f := LV.I) (el' := [(4, .L l18), (5, .arr 186 (List.length l21)), (6, .L l19), (7, .arr 178 (List.length l20))]) 170 3 1 l19 rfl rfl (prN rfl) (fK rfl (fK rfl (fZ (fK rfl fN))))) (Wk.trans (Wk.frzL (f := LV.I) (el' := [(4, .L l18), (5, .arr 186 (List.length l21)), (6, .L l19), (7, .L l20)]) 178 3 1 l20 rfl rfl (prN rfl) (fK rfl (fK rfl (fK rfl (fZ fN))))) (Wk.trans (Wk.frzL (f := LV.I) (el' := [(4, .L l18), (5, .L l21), (6, .L l19), (7, .L l20)]) 186 3 1 l21 rfl rfl (prN rfl) (fK rfl (fZ (fK rfl (fK rfl fN))))) (Wk.eq (el := [(4, .L l18), (5, .L l21), (6, .L l19), (7, .L l20)]) (ml := []) rfl rfl rfl rfl))))))) ?_
  refine LH.seqT [(4, .L l18), (5, .L l21), (6, .L l19), (7, .L l20)] [] rfl ?_ ?_
  ·refine sMl rfl ?_
   refine sMl rfl ?_
   refine sMl rfl ?_
   refine sMl rfl ?_
   refine sAl rfl ?_
   refine sAl rfl ?_
   refine sAl rfl ?_
   refine sAl rfl ?_
   exact s0 (Wk.eq rfl rfl rfl rfl)
  refine LH.ret ?_
  obtain rfl := Option.some.inj h
  exact retE (congrArg Array.toList Try.results22) (lrT rfl (lrT rfl (lrT rfl (lrT rfl (lr0 ⟨memN mN, rfl, prK rfl, (Sub.tup (sbR (sbR (sbR (sbR sbN)))))⟩)))))

theorem law17_awake_ok {F : Nat} {r : Bool} (h : law17_awake F = some r) : LCall Try.prog 16 [] (Mem.of []) (.bool r) (Mem.of []) := by
  unfold law17_awake at h
  refine bodyT Try.func16 rfl (by rw [Try.ntmps16]; exact Nat.le_of_ble_eq_true rfl) ?_
  refine LH.wk (Wk.eq (el := []) (ml := []) rfl rfl rfl rfl) ?_
  refine LH.seqT [] [] rfl ?_ ?_
  ·refine sAb rfl ?_
   exact s0 (Wk.eq rfl rfl rfl rfl)
  refine LH.seqT [(1, .lst 9 (List.map GBagEvent.lv ([(GBagEvent.mk (GStamp.mk 3 0 2) 3 1 100 0 0 [2]), (GBagEvent.mk (GStamp.mk 1 7 0) 1 1 100 7 0 [1, 2]), (GBagEvent.mk (GStamp.mk 2 7 1) 2 1 100 7 0 [])])))] [] rfl ?_ ?_
  ·refine sN (oBd (vs := [(0, .I 3), (2, .I 2)]) tu32 tz32 rfl (lf tf32_0 ts3 tk3 rfl rfl rfl (lf tf32_2 ts3 tk3 rfl rfl rfl lf0)) ?_)
   refine sN (oBS (f := LV.I) (ys := [2]) te22 tr3 ts3 rfl rfl rfl okI ?_)
   refine sN (oBd (vs := [(0, .agg [.I 3, .I 0, .I 2]), (1, .I 3), (2, .I 1), (3, .I 100), (6, .L [2])]) tu34 tz34 rfl (lf tf34_0 ts32 tk32 rfl rfl rfl (lf tf34_1 ts3 tk3 rfl rfl rfl (lf tf34_2 ts3 tk3 rfl rfl rfl (lf tf34_3 ts3 tk3 rfl rfl rfl (lf tf34_6 ts22 tk22 rfl rfl rfl lf0))))) ?_)
   refine sN (oBd (vs := [(0, .I 1), (1, .I 7)]) tu32 tz32 rfl (lf tf32_0 ts3 tk3 rfl rfl rfl (lf tf32_1 ts3 tk3 rfl rfl rfl lf0)) ?_)
   refine sN (oBS (f := LV.I) (ys := [1, 2]) te22 tr3 ts3 rfl rfl rfl okI ?_)
   refine sN (oBd (vs := [(0, .agg [.I 1, .I 7, .I 0]), (1, .I 1), (2, .I 1), (3, .I 100), (4, .I 7), (6, .L [1, 2])]) tu34 tz34 rfl (lf tf34_0 ts32 tk32 rfl rfl rfl (lf tf34_1 ts3 tk3 rfl rfl rfl (lf tf34_2 ts3 tk3 rfl rfl rfl (lf tf34_3 ts3 tk3 rfl rfl rfl (lf tf34_4 ts3 tk3 rfl rfl rfl (lf tf34_6 ts22 tk22 rfl rfl rfl lf0)))))) ?_)
   refine sN (oBd (vs := [(0, .I 2), (1, .I 7), (2, .I 1)]) tu32 tz32 rfl (lf tf32_0 ts3 tk3 rfl rfl rfl (lf tf32_1 ts3 tk3 rfl rfl rfl (lf tf32_2 ts3 tk3 rfl rfl rfl lf0))) ?_)
   refine sN (oBd (vs := [(0, .agg [.I 2, .I 7, .I 1]), (1, .I 2), (2, .I 1), (3, .I 100), (4, .I 7)]) tu34 tz34 rfl (lf tf34_0 ts32 tk32 rfl rfl rfl (lf tf34_1 ts3 tk3 rfl rfl rfl (lf tf34_2 ts3 tk3 rfl rfl rfl (lf tf34_3 ts3 tk3 rfl rfl rfl (lf tf34_4 ts3 tk3 rfl rfl rfl lf0))))) ?_)
   refine sX (ok_bsn (f := GBagEvent.lv) (ys := [(GBagEvent.mk (GStamp.mk 3 0 2) 3 1 100 0 0 [2]), (GBagEvent.mk (GStamp.mk 1 7 0) 1 1 100 7 0 [1, 2]), (GBagEvent.mk (GStamp.mk 2 7 1) 2 1 100 7 0 [])]) te25 tr34 ts34 rfl rfl rfl (okC rfl rfl rfl (okC rfl rfl rfl (okC rfl rfl rfl okN))) (sbS (Sub.agg (sbR (sbR (sbR (sbR (sbR (sbR (sbR (sbR (sbR sbN)))))))))) (sbS (Sub.agg (sbR (sbR (sbR (sbR (sbR (sbR (sbR (sbR (sbR sbN)))))))))) (sbS (Sub.agg (sbR (sbR (sbR (sbR (sbR (sbR (sbR (sbR (sbL sbN)))))))))) sbN))) GBagEvent.ok) ?_
   refine sAl rfl ?_
   exact s0 (Wk.eq rfl rfl rfl rfl)
  obtain ⟨r1, hr1, h⟩ := bindS h
  refine LH.seqT [(2, .lst 6 (List.map GBag.lv r1.1)), (3, .lst 3 (List.map GRefusal.lv r1.2.1)), (4, .I r1.2.2)] [] rfl ?_ ?_
  ·refine sMl rfl ?_
   refine sN (oCP (args := [.lst 9 (List.map GBagEvent.lv ([(GBagEvent.mk (GStamp.mk 3 0 2) 3 1 100 0 0 [2]), (GBagEvent.mk (GStamp.mk 1 7 0) 1 1 100 7 0 [1, 2]), (GBagEvent.mk (GStamp.mk 2 7 1) 2 1 100 7 0 [])])), .I 9]) rfl isF18 rfl (sbR (sbR sbN)) (custody_Fold_ok hr1) rfl ?_)
   refine sMt rfl ?_
   refine sN (oEx rfl rfl ?_)
   refine sN (oEx rfl rfl ?_)
   refine sN (oEx rfl rfl ?_)
   refine sAl rfl ?_
   refine sAl rfl ?_
   refine sAi rfl ?_
   exact s0 (Wk.eq rfl rfl rfl rfl)
  obtain ⟨r2, hr2, h⟩ := bindS h
  refine LH.seqT [(2, .lst 6 (List.map GBag.lv r1.1)), (3, .lst 3 (List.map GRefusal.lv r1.2.1)), (4, .I r1.2.2), (5, .L r2.1), (6, .L r2.2.1), (7, .L r2.2.2.1), (8, .L r2.2.2.2)] [] rfl ?_ ?_
  ·refine sMl rfl ?_
   refine sN (oBS (f := LV.I) (ys := [1, 2, 3]) te22 tr3 ts3 rfl rfl rfl okI ?_)
   refine sN (oCP (args := [.lst 6 (List.map GBag.lv r1.1), .L [1, 2, 3]]) rfl isF22 rfl (sbR (sbR sbN)) (custody_Account_ok hr2) rfl ?_)
   refine sMt rfl ?_
   refine sN (oEx rfl rfl ?_)
   refine sN (oEx rfl rfl ?_)
   refine sN (oEx rfl rfl ?_)
   refine sN (oEx rfl rfl ?_)
   refine sAl rfl ?_
   refine sAl rfl ?_
   refine sAl rfl ?_
   refine sAl rfl ?_
   exact s0 (Wk.eq rfl rfl rfl rfl)
  obtain ⟨w4, hv, h⟩ := bindS h
  refine LH.seqT [(0, .bool w4)] [] rfl ?_ ?_
  ·refine sMi rfl ?_
   refine sN (oEq rfl rfl ?_)
   refine sMb rfl ?_
   by_cases hb5 : (r1.2.2 == 0) = true
   ·replace hv := iteT hv hb5
    refine sT rfl (congrArg LV.bool hb5) (oM (v := (.lst _ _)) rfl ?_)
    refine sT rfl (congrArg LV.bool hb5) (oLnL (f := GRefusal.lv) te40 rfl ?_)
    refine sT rfl (congrArg LV.bool hb5) (oEq rfl rfl ?_)
    refine sN (oPkT (congrArg LV.bool hb5) (v := (.bool _)) rfl ?_)
    refine sMb rfl ?_
    by_cases hb6 : ((r1.2.1.length : Int) == 0) = true
    ·replace hv := iteT hv hb6
     refine sT rfl (congrArg LV.bool hb6) (oM (v := (.lst _ _)) rfl ?_)
     refine sT rfl (congrArg LV.bool hb6) (oLnL (f := GBag.lv) te39 rfl ?_)
     refine sT rfl (congrArg LV.bool hb6) (oEq rfl rfl ?_)
     refine sN (oPkT (congrArg LV.bool hb6) (v := (.bool _)) rfl ?_)
     refine sMb rfl ?_
     by_cases hb7 : ((r1.1.length : Int) == 1) = true
     ·replace hv := iteT hv hb7
      refine sT rfl (congrArg LV.bool hb7) (oM (v := (.lst _ _)) rfl ?_)
      obtain ⟨x8, hx8, hv⟩ := bindS hv
      refine sT rfl (congrArg LV.bool hb7) (oIx (f := GBag.lv) te39 tk46 ts46 rfl rfl GBag.ok hx8 rfl ?_)
      refine sT rfl (congrArg LV.bool hb7) (oFaS tf46_2 tk4 ts4 rfl rfl rfl ?_)
      refine sT rfl (congrArg LV.bool hb7) (oLd rfl tk4 ta4 ?_)
      refine sN (oPkT (congrArg LV.bool hb7) (v := (.bool _)) rfl ?_)
      refine sMb rfl ?_
      by_cases hb9 : x8.Open = true
      ·replace hv := iteT hv hb9
       refine sT rfl (congrArg LV.bool hb9) (oM (v := (.lst _ _)) rfl ?_)
       refine sT rfl (congrArg LV.bool hb9) (oBS (f := LV.I) (ys := [3]) te22 tr3 ts3 rfl rfl rfl okI ?_)
       obtain ⟨r10, hr10, hv⟩ := bindS hv
       refine sT rfl (congrArg LV.bool hb9) (oCP (args := [.L r2.1, .L [3]]) rfl isF26 rfl (sbR (sbR sbN)) (ref06_Ints_ok hr10) rfl ?_)
       refine sN (oPkT (congrArg LV.bool hb9) (v := (.bool _)) rfl ?_)
       refine sMb rfl ?_
       by_cases hb11 : r10 = true
       ·replace hv := iteT hv hb11
        refine sT rfl (congrArg LV.bool hb11) (oM (v := (.lst _ _)) rfl ?_)
        refine sT rfl (congrArg LV.bool hb11) (oLnL (f := LV.I) te22 rfl ?_)
        refine sT rfl (congrArg LV.bool hb11) (oEq rfl rfl ?_)
        refine sN (oPkT (congrArg LV.bool hb11) (v := (.bool _)) rfl ?_)
        refine sMb rfl ?_
        by_cases hb12 : ((r2.2.1.length : Int) == 0) = true
        ·replace hv := iteT hv hb12
         refine sT rfl (congrArg LV.bool hb12) (oM (v := (.lst _ _)) rfl ?_)
         refine sT rfl (congrArg LV.bool hb12) (oBS (f := LV.I) (ys := [2]) te22 tr3 ts3 rfl rfl rfl okI ?_)
         obtain ⟨r13, hr13, hv⟩ := bindS hv
         refine sT rfl (congrArg LV.bool hb12) (oCP (args := [.L r2.2.2.1, .L [2]]) rfl isF26 rfl (sbR (sbR sbN)) (ref06_Ints_ok hr13) rfl ?_)
         refine sN (oPkT (congrArg LV.bool hb12) (v := (.bool _)) rfl ?_)
         refine sMb rfl ?_
         by_cases hb14 : r13 = true
         ·replace hv := iteT hv hb14
          refine sT rfl (congrArg LV.bool hb14) (oM (v := (.lst _ _)) rfl ?_)
          refine sT rfl (congrArg LV.bool hb14) (oBS (f := LV.I) (ys := [1]) te22 tr3 ts3 rfl rfl rfl okI ?_)
          obtain ⟨r15, hr15, hv⟩ := bindS hv
          refine sT rfl (congrArg LV.bool hb14) (oCP (args := [.L r2.2.2.2, .L [1]]) rfl isF26 rfl (sbR (sbR sbN)) (ref06_Ints_ok hr15) rfl ?_)
          refine sN (oPkT (congrArg LV.bool hb14) (v := (.bool _)) rfl ?_)
          refine sAb rfl ?_
          obtain rfl := Option.some.inj hv
          exact s0 (Wk.eq rfl rfl rfl rfl)
         ·replace hb14 := bF hb14
          replace hv := iteF hv hb14
          refine sF rfl rfl hb14 ?_
          refine sF rfl rfl hb14 ?_
          refine sF rfl rfl hb14 ?_
          refine sN (oPkF (congrArg LV.bool hb14) (v := (.bool _)) rfl ?_)
          refine sAb rfl ?_
          obtain rfl := Option.some.inj hv
          exact s0 (Wk.eq rfl rfl rfl rfl)
        ·replace hb12 := bF hb12
         replace hv := iteF hv hb12
         refine sF rfl rfl hb12 ?_
         refine sF rfl rfl hb12 ?_
         refine sF rfl rfl hb12 ?_
         refine sN (oPkF (congrArg LV.bool hb12) (v := (.bool _)) rfl ?_)
         refine sMb rfl ?_
         refine sF rfl rfl rfl ?_
         refine sF rfl rfl rfl ?_
         refine sF rfl rfl rfl ?_
         refine sN (oPkF rfl (v := (.bool _)) rfl ?_)
         refine sAb rfl ?_
         obtain rfl := Option.some.inj hv
         exact s0 (Wk.eq rfl rfl rfl rfl)
       ·replace hb11 := bF hb11
        replace hv := iteF hv hb11
        refine sF rfl rfl hb11 ?_
        refine sF rfl rfl hb11 ?_
        refine sF rfl rfl hb11 ?_
        refine sN (oPkF (congrArg LV.bool hb11) (v := (.bool _)) rfl ?_)
        refine sMb rfl ?_
        refine sF rfl rfl rfl ?_
        refine sF rfl rfl rfl ?_
        refine sF rfl rfl rfl ?_
        refine sN (oPkF rfl (v := (.bool _)) rfl ?_)
        refine sMb rfl ?_
        refine sF rfl rfl rfl ?_
        refine sF rfl rfl rfl ?_
        refine sF rfl rfl rfl ?_
        refine sN (oPkF rfl (v := (.bool _)) rfl ?_)
        refine sAb rfl ?_
        obtain rfl := Option.some.inj hv
        exact s0 (Wk.eq rfl rfl rfl rfl)
      ·replace hb9 := bF hb9
       replace hv := iteF hv hb9
       refine sF rfl rfl hb9 ?_
       refine sF rfl rfl hb9 ?_
       refine sF rfl rfl hb9 ?_
       refine sN (oPkF (congrArg LV.bool hb9) (v := (.bool _)) rfl ?_)
       refine sMb rfl ?_
       refine sF rfl rfl rfl ?_
       refine sF rfl rfl rfl ?_
       refine sF rfl rfl rfl ?_
       refine sN (oPkF rfl (v := (.bool _)) rfl ?_)
       refine sMb rfl ?_
       refine sF rfl rfl rfl ?_
       refine sF rfl rfl rfl ?_
       refine sF rfl rfl rfl ?_
       refine sN (oPkF rfl (v := (.bool _)) rfl ?_)
       refine sMb rfl ?_
       refine sF rfl rfl rfl ?_
       refine sF rfl rfl rfl ?_
       refine sF rfl rfl rfl ?_
       refine sN (oPkF rfl (v := (.bool _)) rfl ?_)
       refine sAb rfl ?_
       obtain rfl := Option.some.inj hv
       exact s0 (Wk.eq rfl rfl rfl rfl)
     ·replace hb7 := bF hb7
      replace hv := iteF hv hb7
      refine sF rfl rfl hb7 ?_
      refine sF rfl rfl hb7 ?_
      refine sF rfl rfl hb7 ?_
      refine sF rfl rfl hb7 ?_
      refine sN (oPkF (congrArg LV.bool hb7) (v := (.bool _)) rfl ?_)
      refine sMb rfl ?_
      refine sF rfl rfl rfl ?_
      refine sF rfl rfl rfl ?_
      refine sF rfl rfl rfl ?_
      refine sN (oPkF rfl (v := (.bool _)) rfl ?_)
      refine sMb rfl ?_
      refine sF rfl rfl rfl ?_
      refine sF rfl rfl rfl ?_
      refine sF rfl rfl rfl ?_
      refine sN (oPkF rfl (v := (.bool _)) rfl ?_)
      refine sMb rfl ?_
      refine sF rfl rfl rfl ?_
      refine sF rfl rfl rfl ?_
      refine sF rfl rfl rfl ?_
      refine sN (oPkF rfl (v := (.bool _)) rfl ?_)
      refine sMb rfl ?_
      refine sF rfl rfl rfl ?_
      refine sF rfl rfl rfl ?_
      refine sF rfl rfl rfl ?_
      refine sN (oPkF rfl (v := (.bool _)) rfl ?_)
      refine sAb rfl ?_
      obtain rfl := Option.some.inj hv
      exact s0 (Wk.eq rfl rfl rfl rfl)
    ·replace hb6 := bF hb6
     replace hv := iteF hv hb6
     refine sF rfl rfl hb6 ?_
     refine sF rfl rfl hb6 ?_
     refine sF rfl rfl hb6 ?_
     refine sN (oPkF (congrArg LV.bool hb6) (v := (.bool _)) rfl ?_)
     refine sMb rfl ?_
     refine sF rfl rfl rfl ?_
     refine sF rfl rfl rfl ?_
     refine sF rfl rfl rfl ?_
     refine sF rfl rfl rfl ?_
     refine sN (oPkF rfl (v := (.bool _)) rfl ?_)
     refine sMb rfl ?_
     refine sF rfl rfl rfl ?_
     refine sF rfl rfl rfl ?_
     refine sF rfl rfl rfl ?_
     refine sN (oPkF rfl (v := (.bool _)) rfl ?_)
     refine sMb rfl ?_
     refine sF rfl rfl rfl ?_
     refine sF rfl rfl rfl ?_
     refine sF rfl rfl rfl ?_
     refine sN (oPkF rfl (v := (.bool _)) rfl ?_)
     refine sMb rfl ?_
     refine sF rfl rfl rfl ?_
     refine sF rfl rfl rfl ?_
     refine sF rfl rfl rfl ?_
     refine sN (oPkF rfl (v := (.bool _)) rfl ?_)
     refine sMb rfl ?_
     refine sF rfl rfl rfl ?_
     refine sF rfl rfl rfl ?_
     refine sF rfl rfl rfl ?_
     refine sN (oPkF rfl (v := (.bool _)) rfl ?_)
     refine sAb rfl ?_
     obtain rfl := Option.some.inj hv
     exact s0 (Wk.eq rfl rfl rfl rfl)
   ·replace hb5 := bF hb5
    replace hv := iteF hv hb5
    refine sF rfl rfl hb5 ?_
    refine sF rfl rfl hb5 ?_
    refine sF rfl rfl hb5 ?_
    refine sN (oPkF (congrArg LV.bool hb5) (v := (.bool _)) rfl ?_)
    refine sMb rfl ?_
    refine sF rfl rfl rfl ?_
    refine sF rfl rfl rfl ?_
    refine sF rfl rfl rfl ?_
    refine sN (oPkF rfl (v := (.bool _)) rfl ?_)
    refine sMb rfl ?_
    refine sF rfl rfl rfl ?_
    refine sF rfl rfl rfl ?_
    refine sF rfl rfl rfl ?_
    refine sF rfl rfl rfl ?_
    refine sN (oPkF rfl (v := (.bool _)) rfl ?_)
    refine sMb rfl ?_
    refine sF rfl rfl rfl ?_
    refine sF rfl rfl rfl ?_
    refine sF rfl rfl rfl ?_
    refine sN (oPkF rfl (v := (.bool _)) rfl ?_)
    refine sMb rfl ?_
    refine sF rfl rfl rfl ?_
    refine sF rfl rfl rfl ?_
    refine sF rfl rfl rfl ?_
    refine sN (oPkF rfl (v := (.bool _)) rfl ?_)
    refine sMb rfl ?_
    refine sF rfl rfl rfl ?_
    refine sF rfl rfl rfl ?_
    refine sF rfl rfl rfl ?_
    refine sN (oPkF rfl (v := (.bool _)) rfl ?_)
    refine sMb rfl ?_
    refine sF rfl rfl rfl ?_
    refine sF rfl rfl rfl ?_
    refine sF rfl rfl rfl ?_
    refine sN (oPkF rfl (v := (.bool _)) rfl ?_)
    refine sAb rfl ?_
    obtain rfl := Option.some.inj hv
    exact s0 (Wk.eq rfl rfl rfl rfl)
  clear hv
  refine LH.ret ?_
  obtain rfl := Option.some.inj h
  exact retE (congrArg Array.toList Try.results16) (lrT rfl (lr0 ⟨memN mN, rfl, prK rfl, Sub.rfl⟩))

end Go.Proofs.Ytdjkbicmkbnjdaa
