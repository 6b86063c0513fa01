import Derived.Test.YtbicmjeldappjaaZW2
set_option linter.unusedVariables false
set_option linter.unusedSimpArgs false
set_option maxRecDepth 100000
set_option maxHeartbeats 1000000
namespace Go.Proofs.Ytbicmjeldappjaa
open Go.L Go.Sh
theorem Gq54 {F : Nat} {p0 : GDice} {p1 : List Gq55} {r : List Gq55 × GDice} (h : Gq49 F p0 p1 = some r) : LCall Try.prog 13 [.ptr 9 0, .lst 9 (List.map Gq55.lv p1)] (Mem.of [(9, .box [.L p0.L, .I p0.At])]) (.lst 9 (List.map Gq55.lv r.1)) (Mem.of [(9, .box [.L r.2.L, .I r.2.At])]) := by
  unfold Gq49 at h
  refine bodyT Try.func13 R (nT Try.ntmps13 R) (LH.wk (Wk.eq (el := [(0, .ptr 9 0), (1, .lst 9 (List.map Gq55.lv p1))]) (ml := [(9, .box [.L p0.L, .I p0.At])]) R R R R) (LH.seqT [(0, .ptr 9 0), (1, .lst 9 (List.map Gq55.lv p1))] [(9, .box [.L p0.L, .I p0.At])] R (sAn R zS) ?_))
  obtain ⟨v1, hv1, h⟩ := bindS h
  refine LH.seqT [(0, .ptr 9 0), (1, .lst 9 (List.map Gq55.lv p1)), (5, .arr 110 (List.length v1))] [(9, .box [.L p0.L, .I p0.At]), (110, .arr 47 9 (List.map Gq55.lv v1))] R (sMl R (sN (oApN (f := Gq55.lv) (id := 110) R te27 tr47 ts47 R R hv1 R (sAa R zS)))) (LH.seq (LH.seqT [(0, .ptr 9 0), (1, .lst 9 (List.map Gq55.lv p1)), (5, .arr 110 (List.length v1)), (6, .I (i64 ((v1.length : Int) - 1)))] [(9, .box [.L p0.L, .I p0.At]), (110, .arr 47 9 (List.map Gq55.lv v1))] R (sMa R (sN (oLnA (f := Gq55.lv) te27 R R (sN (oSub R R (sAi R zS)))))) (LH.block (LH.loop (fun n e m => ∃ (n2 : Int) (l3 : List Int) (n4 : Int) (l5 : List Gq55), Gq50 F p1 n n2 l3 n4 l5 = some r ∧ e = Env.of [(0, .ptr 9 0), (1, .lst 9 (List.map Gq55.lv p1)), (5, .arr 110 (List.length l5)), (6, .I n2)] ∧ m = Mem.of [(9, .box [.L l3, .I n4]), (110, .arr 47 9 (List.map Gq55.lv l5))]) F ⟨(i64 ((v1.length : Int) - 1)), p0.L, p0.At, v1, h, R, R⟩ ?_))))
  clear h
  rintro n e m ⟨n2, l3, n4, l5, h, rfl, rfl⟩
  rcases n with _ | n
  · cases (show Option.none = some _ from h)
  obtain ⟨rec1, hrec1⟩ : ∃ f, f = Gq50 F p1 n := ⟨_, rfl⟩
  replace h : Gq51 F p1 rec1 n2 l3 n4 l5 = some r := hrec1 ▸ h
  unfold Gq51 at h
  refine LH.seq (LH.seqT [(0, .ptr 9 0), (1, .lst 9 (List.map Gq55.lv p1)), (5, .arr 110 (List.length l5)), (6, .I n2), (15, .bool (decide (n2 > 0)))] [(9, .box [.L l3, .I n4]), (110, .arr 47 9 (List.map Gq55.lv l5))] R (sMi R (sN (oGt R R zS))) (LH.cond (t := (decide (n2 > 0))) R (fun hc6 => ?_) (fun hc6 => ?_)))
  ·replace h := iteT h hc6
   refine LH.skip (thenN (LH.wk (Wk.eq (el := [(0, .ptr 9 0), (1, .lst 9 (List.map Gq55.lv p1)), (5, .arr 110 (List.length l5)), (6, .I n2)]) (ml := [(9, .box [.L l3, .I n4]), (110, .arr 47 9 (List.map Gq55.lv l5))]) R R R R) (LH.seq (LH.block ?_))))
   obtain ⟨r7, hr7, h⟩ := bindS h
   refine LH.seqT [(0, .ptr 9 0), (1, .lst 9 (List.map Gq55.lv p1)), (5, .arr 110 (List.length l5)), (6, .I n2), (7, .I r7.1)] [(9, .box [.L r7.2.L, .I r7.2.At]), (110, .arr 47 9 (List.map Gq55.lv l5))] R (sMp R (sMi R (sN (oAdd R R (sN (oCM (args := [.ptr 9 0, .I (i64 (n2 + 1))]) (ml := [(9, .box [.L l3, .I n4])]) (ml' := [(9, .box [.L r7.2.L, .I r7.2.At])]) R isF18 R (sbR (sbR sbN)) (Gq15 hr7) (mC R mN) (newI R newN) R (sAi R zS))))))) ?_
   obtain ⟨x8, hx8, h⟩ := bindS h
   obtain ⟨x9, hx9, h⟩ := bindS h
   obtain ⟨x10, hx10, h⟩ := bindS h
   obtain ⟨x11, hx11, h⟩ := bindS h
   refine LH.loneTM mixed [] [0, 0, 0, 0, 0, 0, 1110, 1110, 0, 0, 1110, 1110, 1110, 100110, 1110, 100110] [(0, .ptr 9 0), (1, .lst 9 (List.map Gq55.lv p1)), (5, .arr 110 (List.length ((l5.set n2.toNat x8).set r7.1.toNat x9))), (6, .I n2)] [(9, .box [.L r7.2.L, .I r7.2.At]), (110, .arr 47 9 (List.map Gq55.lv ((l5.set n2.toNat x8).set r7.1.toNat x9)))] R R (by kernel_rfl) ?_ ?_
   ·exact mMa R (mMi R (mMa R (mMi R (mMa R (mMi R (mD R R R (fun _ b _ d => oIxA (f := Gq55.lv) te27 tk47 ts47 R b R hx8 d) (mD R R R (fun _ b _ d => oLdEA (f := Gq55.lv) R b (idxOk hx8).2 R R tk47 ta47 ts47 R R d) (mMa R (mMi R (mD R R R (fun _ b _ d => oIxA (f := Gq55.lv) te27 tk47 ts47 R b R hx9 d) (mD R R R (fun _ b _ d => oLdEA (f := Gq55.lv) R b (idxOk hx9).2 R R tk47 ta47 ts47 R R d) (mD R R R (fun _ b _ d => oIxA (f := Gq55.lv) te27 tk47 ts47 R b R hx10 d) (mS R R R (fun _ b _ d => oStE (f := Gq55.lv) (z' := x8) R R R R tk47 ts47 b (idxOk hx10).2 R d) (mD R R R (fun _ b _ d => oIxA (f := Gq55.lv) te27 tk47 ts47 (congrArg (LV.arr 110) (by simp)) b R hx11 d) (mS R R R (fun _ b _ d => oStE (f := Gq55.lv) (z' := x9) R R R R tk47 ts47 b (idxOk hx11).2 R d) (m0 (Wk.to (eC R (eC R (eC (congrArg (LV.arr 110) (by simp)) (eC R eN)))) ⟨R, R, trivial⟩ R (prK R))))))))))))))))))
   refine blockN (thenN (LH.loneT [(0, .ptr 9 0), (1, .lst 9 (List.map Gq55.lv p1)), (5, .arr 110 (List.length ((l5.set n2.toNat x8).set r7.1.toNat x9))), (6, .I (i64 (n2 - 1)))] [(9, .box [.L r7.2.L, .I r7.2.At]), (110, .arr 47 9 (List.map Gq55.lv ((l5.set n2.toNat x8).set r7.1.toNat x9)))] R (sMi R (sN (oSub R R (sAi R zS)))) ?_))
   exact roundI ⟨(i64 (n2 - 1)), r7.2.L, r7.2.At, ((l5.set n2.toNat x8).set r7.1.toNat x9), hrec1 ▸ h, R, R⟩ (Wk.eq R R R R)
  replace h := iteF h hc6
  refine LH.exit (thenX (roundX (blockH (thenN (LH.wk (Wk.eq (el := [(0, .ptr 9 0), (1, .lst 9 (List.map Gq55.lv p1)), (5, .arr 110 (List.length l5))]) (ml := [(9, .box [.L l3, .I n4]), (110, .arr 47 9 (List.map Gq55.lv l5))]) R R R R) (LH.seq (LH.seqT [(0, .ptr 9 0), (1, .lst 9 (List.map Gq55.lv p1)), (5, .arr 110 (List.length l5)), (8, .I 0)] [(9, .box [.L l3, .I n4]), (110, .arr 47 9 (List.map Gq55.lv l5))] R (sAi R zS) (LH.block (LH.loop (fun n e m => ∃ (n12 : Int) (l13 : List Int) (n14 : Int) (l15 : List Gq55), Gq52 p1 n n12 l13 n14 l15 = some r ∧ e = Env.of [(0, .ptr 9 0), (1, .lst 9 (List.map Gq55.lv p1)), (5, .arr 110 (List.length l15)), (8, .I n12)] ∧ m = Mem.of [(9, .box [.L l13, .I n14]), (110, .arr 47 9 (List.map Gq55.lv l15))]) F ⟨0, l3, n4, l5, h, R, R⟩ ?_)))))))))
  clear h
  rintro n e m ⟨n12, l13, n14, l15, h, rfl, rfl⟩
  rcases n with _ | n
  · cases (show Option.none = some _ from h)
  obtain ⟨rec2, hrec2⟩ : ∃ f, f = Gq52 p1 n := ⟨_, rfl⟩
  replace h : Gq53 p1 rec2 n12 l13 n14 l15 = some r := hrec2 ▸ h
  unfold Gq53 at h
  refine LH.seq (LH.seqT [(0, .ptr 9 0), (1, .lst 9 (List.map Gq55.lv p1)), (5, .arr 110 (List.length l15)), (8, .I n12), (39, .bool (decide (n12 < (p1.length : Int))))] [(9, .box [.L l13, .I n14]), (110, .arr 47 9 (List.map Gq55.lv l15))] R (sMi R (sMl R (sN (oLnL (f := Gq55.lv) te27 R (sN (oLt R R zS)))))) (LH.cond (t := (decide (n12 < (p1.length : Int)))) R (fun hc16 => ?_) (fun hc16 => ?_)))
  ·replace h := iteT h hc16
   refine LH.skip (thenN (LH.wk (Wk.eq (el := [(0, .ptr 9 0), (1, .lst 9 (List.map Gq55.lv p1)), (5, .arr 110 (List.length l15)), (8, .I n12)]) (ml := [(9, .box [.L l13, .I n14]), (110, .arr 47 9 (List.map Gq55.lv l15))]) R R R R) (LH.seq (LH.block ?_))))
   obtain ⟨r17, hr17, h⟩ := bindS h
   refine LH.seqT [(0, .ptr 9 0), (1, .lst 9 (List.map Gq55.lv p1)), (5, .arr 110 (List.length l15)), (8, .I n12), (43, .bool r17.1)] [(9, .box [.L r17.2.L, .I r17.2.At]), (110, .arr 47 9 (List.map Gq55.lv l15))] R (sMp R (sN (oCM (args := [.ptr 9 0, .I 4]) (ml := [(9, .box [.L l13, .I n14])]) (ml' := [(9, .box [.L r17.2.L, .I r17.2.At])]) R isF38 R (sbR (sbR sbN)) (Gq1 hr17) (mC R mN) (newI R newN) R zS))) (LH.cond (t := r17.1) R (fun hc18 => ?_) (fun hc18 => ?_))
   ·replace h := iteT h hc18
    obtain ⟨x19, hx19, h⟩ := bindS h
    obtain ⟨v20, hv20, h⟩ := bindS h
    refine LH.loneT [(0, .ptr 9 0), (1, .lst 9 (List.map Gq55.lv p1)), (5, .arr 110 (List.length v20)), (8, .I n12)] [(9, .box [.L r17.2.L, .I r17.2.At]), (110, .arr 47 9 (List.map Gq55.lv v20))] R (sMa R (sMl R (sMi R (sN (oIx (f := Gq55.lv) te27 tk47 ts47 R R Gq55.ok hx19 R (sN (oLdA R tk47 ta47 ts47 R R (sN (oBS (f := Gq55.lv) (ys := [x19]) te27 tr47 ts47 R R R Gq55.ok (sN (oAp (f := Gq55.lv) te27 tr47 ts47 R R (prN R) R hv20 (sAa R zS)))))))))))) (blockN (thenN (LH.loneT [(0, .ptr 9 0), (1, .lst 9 (List.map Gq55.lv p1)), (5, .arr 110 (List.length v20)), (8, .I (i64 (n12 + 1)))] [(9, .box [.L r17.2.L, .I r17.2.At]), (110, .arr 47 9 (List.map Gq55.lv v20))] R (sMi R (sN (oAdd R R (sAi R zS)))) ?_)))
    exact roundI ⟨(i64 (n12 + 1)), r17.2.L, r17.2.At, v20, hrec2 ▸ h, R, R⟩ (Wk.eq R R R R)
   replace h := iteF h hc18
   refine LH.skip (blockN (thenN (LH.loneT [(0, .ptr 9 0), (1, .lst 9 (List.map Gq55.lv p1)), (5, .arr 110 (List.length l15)), (8, .I (i64 (n12 + 1)))] [(9, .box [.L r17.2.L, .I r17.2.At]), (110, .arr 47 9 (List.map Gq55.lv l15))] R (sMi R (sN (oAdd R R (sAi R zS)))) ?_)))
   exact roundI ⟨(i64 (n12 + 1)), r17.2.L, r17.2.At, l15, hrec2 ▸ h, R, R⟩ (Wk.eq R R R R)
  replace h := iteF h hc16
  refine LH.exit (thenX (roundX (blockH (thenN (LH.wk ((Wk.trans (Wk.eq (el := [(5, .arr 110 (List.length l15))]) (ml := [(9, .box [.L l13, .I n14]), (110, .arr 47 9 (List.map Gq55.lv l15))]) R R R R) (Wk.trans (Wk.frzL (f := Gq55.lv) (el' := [(5, .lst 9 (List.map Gq55.lv l15))]) 110 47 9 l15 R R (prN R) (fZ fN)) (Wk.eq (el := [(5, .lst 9 (List.map Gq55.lv l15))]) (ml := [(9, .box [.L l13, .I n14])]) R R R R)))) (LH.seqT [(4, .lst 9 (List.map Gq55.lv l15))] [(9, .box [.L l13, .I n14])] R (sMl R (sAl R zS)) (LH.ret ?_)))))))
  obtain rfl := oI h
  exact retE (aT Try.results13) (lrT R (lr0 ⟨memN (mC R mN), R, prK R, Sub.rfl⟩))

theorem q106q {F : Nat} {p0 : List Int} {r : Bool} (h : q66q F p0 = some r) : LCall Try.prog 3 [.L p0] (Mem.of []) (.bool r) (Mem.of []) := by
  unfold q66q at h
  refine bodyT Try.func3 R (nT Try.ntmps3 R) (LH.wk (Wk.eq (el := [(0, .L p0)]) (ml := []) R R R R) (LH.seqT [(0, .L p0)] [] R (sAb R zS) (LH.seq ?_)))
  obtain ⟨r1, hr1, h⟩ := bindS h
  refine LH.seqT [(0, .L p0), (14, .bool (!r1))] [] R (sMl R (sN (oCP (args := [.L p0]) R isF7 R (sbR sbN) (q126q hr1) R (sN (oNot R zS))))) (LH.cond (t := (!r1)) R (fun hc2 => ?_) (fun hc2 => ?_))
  ·replace h := iteT h hc2
   obtain ⟨r3, hr3, h⟩ := bindS h
   refine LH.seqT [(2, .bool r3)] [] R (sN (oCP (args := []) R isF8 R sbN (q109q hr3) R (sAb R zS))) (LH.ret (thenR ?_))
   obtain rfl := oI h
   exact retE (aT Try.results3) (lrT R (lr0 ⟨memN mN, R, prK R, Sub.rfl⟩))
  replace h := iteF h hc2
  refine LH.skip (thenN ?_)
  obtain ⟨r4, hr4, h⟩ := bindS h
  refine LH.seqT [(3, .ptr 9 0)] [(9, .box [.L r4.L, .I r4.At])] R (sMl R (sN (oCM (args := [.L p0]) (ml := []) (ml' := [(9, .box [.L r4.L, .I r4.At])]) R isF9 R (sbR sbN) (q129q hr4) mN (newF R newN) R (sAp R zS)))) ?_
  obtain ⟨r5, hr5, h⟩ := bindS h
  obtain ⟨r6, hr6, h⟩ := bindS h
  refine LH.seqT [(3, .ptr 9 0), (4, .lst 9 (List.map Gq55.lv r6.1))] [(9, .box [.L r6.2.L, .I r6.2.At])] R (sMp R (sMp R (sN (oCM (args := [.ptr 9 0]) (ml := [(9, .box [.L r4.L, .I r4.At])]) (ml' := [(9, .box [.L r5.2.L, .I r5.2.At])]) R isF11 R (sbR sbN) (Gq48 hr5) (mC R mN) (newI R newN) R (sN (oCM (args := [.ptr 9 0, .agg [.lst 5 (List.map Gq56.lv r5.1.Markers), .lst 7 (List.map Gq60.lv r5.1.Scripts), .lst 3 (List.map Gq58.lv r5.1.Papers), .lst 2 (List.map Gq59.lv r5.1.Schemes), .lst 2 (List.map GSeed.lv r5.1.Seeds), .I r5.1.Monitor.Part, .I r5.1.Monitor.Total, .I r5.1.Monitor.Window, .I r5.1.Monitor.Fails], .I 30]) (ml := [(9, .box [.L r5.2.L, .I r5.2.At])]) (ml' := [(9, .box [.L r6.2.L, .I r6.2.At]), (900, .arr 47 9 (List.map Gq55.lv r6.1))]) R isF10 R (sbR (sbR (sbR sbN))) (Gq5 hr6) ⟨R, trivial⟩ (newI R (newF R newN)) R (sAa R (s0 ((Wk.trans (Wk.eq (el := [(3, .ptr 9 0), (4, .arr 900 (List.length r6.1))]) (ml := [(9, .box [.L r6.2.L, .I r6.2.At]), (900, .arr 47 9 (List.map Gq55.lv r6.1))]) R R R R) (Wk.trans (Wk.frzL (f := Gq55.lv) (el' := [(3, .ptr 9 0), (4, .lst 9 (List.map Gq55.lv r6.1))]) 900 47 9 r6.1 R R (prN R) (fK R (fZ fN))) (Wk.eq R R R R)))))))))))) ?_
  obtain ⟨r7, hr7, h⟩ := bindS h
  refine LH.seqT [(3, .ptr 9 0), (4, .lst 9 (List.map Gq55.lv r6.1)), (5, .lst 9 (List.map Gq55.lv r7.1)), (6, .I r7.2)] [(9, .box [.L r6.2.L, .I r6.2.At])] R (sMl R (sN (oCP (args := [.lst 9 (List.map Gq55.lv r6.1)]) R isF12 R (sbR sbN) (q24q hr7) R (sMt R (sN (oEx R R (sN (oEx R R (sAl R (sAi R zS)))))))))) ?_
  obtain ⟨r8, hr8, h⟩ := bindS h
  obtain ⟨r9, hr9, h⟩ := bindS h
  refine LH.seqT [(5, .lst 9 (List.map Gq55.lv r7.1)), (6, .I r7.2), (7, .lst 9 (List.map Gq55.lv r9.1)), (8, .I r9.2)] [] R (sMp R (sMl R (sN (oCM (args := [.ptr 9 0, .lst 9 (List.map Gq55.lv r6.1)]) (ml := [(9, .box [.L r6.2.L, .I r6.2.At])]) (ml' := [(9, .box [.L r8.2.L, .I r8.2.At])]) R isF13 R (sbR (sbR sbN)) (Gq54 hr8) (mC R mN) (newI R newN) R (sN (oCP (args := [.lst 9 (List.map Gq55.lv r8.1)]) R isF12 R (sbR sbN) (q24q hr9) R (sMt R (sN (oEx R R (sN (oEx R R (sAl R (sAi R zS))))))))))))) ?_
  obtain ⟨r10, hr10, h⟩ := bindS h
  refine LH.seqT [(5, .lst 9 (List.map Gq55.lv r7.1)), (6, .I r7.2), (7, .lst 9 (List.map Gq55.lv r9.1)), (8, .I r9.2), (9, .lst 9 (List.map Gq55.lv r10.1)), (10, .I r10.2)] [] R (sMl R (sN (oCP (args := [.lst 9 (List.map Gq55.lv r7.1)]) R isF12 R (sbR sbN) (q24q hr10) R (sMt R (sN (oEx R R (sN (oEx R R (sAl R (sAi R zS)))))))))) (LH.seq (LH.seqT [(5, .lst 9 (List.map Gq55.lv r7.1)), (6, .I r7.2), (7, .lst 9 (List.map Gq55.lv r9.1)), (8, .I r9.2), (9, .lst 9 (List.map Gq55.lv r10.1)), (10, .I r10.2), (11, .I 1)] [] R (sAi R zS) (LH.block (LH.loop (fun n e m => ∃ (n11 : Int), q21q F r7 r9 r10 n n11 = some r ∧ e = Env.of [(5, .lst 9 (List.map Gq55.lv r7.1)), (6, .I r7.2), (7, .lst 9 (List.map Gq55.lv r9.1)), (8, .I r9.2), (9, .lst 9 (List.map Gq55.lv r10.1)), (10, .I r10.2), (11, .I n11)] ∧ m = Mem.of []) F ⟨1, h, R, R⟩ ?_))))
  clear h
  rintro n e m ⟨n11, h, rfl, rfl⟩
  rcases n with _ | n
  · cases (show Option.none = some _ from h)
  obtain ⟨rec1, hrec1⟩ : ∃ f, f = q21q F r7 r9 r10 n := ⟨_, rfl⟩
  replace h : q14q F r7 r9 r10 rec1 n11 = some r := hrec1 ▸ h
  unfold q14q at h
  refine LH.seq (LH.seqT [(5, .lst 9 (List.map Gq55.lv r7.1)), (6, .I r7.2), (7, .lst 9 (List.map Gq55.lv r9.1)), (8, .I r9.2), (9, .lst 9 (List.map Gq55.lv r10.1)), (10, .I r10.2), (11, .I n11), (42, .bool (decide (n11 < (r7.1.length : Int))))] [] R (sMi R (sMl R (sN (oLnL (f := Gq55.lv) te27 R (sN (oLt R R zS)))))) (LH.cond (t := (decide (n11 < (r7.1.length : Int)))) R (fun hc12 => ?_) (fun hc12 => ?_)))
  ·replace h := iteT h hc12
   refine LH.skip (thenN (LH.wk (Wk.eq (el := [(5, .lst 9 (List.map Gq55.lv r7.1)), (6, .I r7.2), (7, .lst 9 (List.map Gq55.lv r9.1)), (8, .I r9.2), (9, .lst 9 (List.map Gq55.lv r10.1)), (10, .I r10.2), (11, .I n11)]) (ml := []) R R R R) (LH.seq (LH.block ?_))))
   obtain ⟨x13, hx13, h⟩ := bindS h
   obtain ⟨x14, hx14, h⟩ := bindS h
   obtain ⟨r15, hr15, h⟩ := bindS h
   refine LH.seqJM mixed [] [0, 0, 0, 0, 0, 0, 0, 0, 0, 0, 0] [(5, .lst 9 (List.map Gq55.lv r7.1)), (6, .I r7.2), (7, .lst 9 (List.map Gq55.lv r9.1)), (8, .I r9.2), (9, .lst 9 (List.map Gq55.lv r10.1)), (10, .I r10.2), (11, .I n11), (55, .bool (!r15))] [] R R (by kernel_rfl) (mMl R (mMi R (mN0 (oSub R R ⟨R, mN0 (oIx (f := Gq55.lv) te27 tk47 ts47 R R Gq55.ok hx13 R ⟨R, mN0 (oLdA R tk47 ta47 ts47 R R ⟨R, mMl R (mMi R (mN0 (oIx (f := Gq55.lv) te27 tk47 ts47 R R Gq55.ok hx14 R ⟨R, mN0 (oLdA R tk47 ta47 ts47 R R ⟨R, mN0 (oCP (args := [Gq55.lv x13, Gq55.lv x14]) R isF14 R (sbR (sbR sbN)) (q96q hr15) R ⟨R, mN0 (oNot R ⟨R, zM⟩)⟩)⟩)⟩)))⟩)⟩)⟩)))) (LH.cond (t := (!r15)) R (fun hc16 => ?_) (fun hc16 => ?_))
   ·replace h := iteT h hc16
    refine LH.seqT [(2, .bool false)] [] R (sAb R zS) (LH.ret (blockR (thenR (roundR (blockR (thenR ?_))))))
    obtain rfl := oI h
    exact retE (aT Try.results3) (lrT R (lr0 ⟨memN mN, R, prK R, Sub.rfl⟩))
   replace h := iteF h hc16
   refine LH.skip (blockN (thenN (LH.loneT [(5, .lst 9 (List.map Gq55.lv r7.1)), (6, .I r7.2), (7, .lst 9 (List.map Gq55.lv r9.1)), (8, .I r9.2), (9, .lst 9 (List.map Gq55.lv r10.1)), (10, .I r10.2), (11, .I (i64 (n11 + 1)))] [] R (sMi R (sN (oAdd R R (sAi R zS)))) ?_)))
   exact roundI ⟨(i64 (n11 + 1)), hrec1 ▸ h, R, R⟩ (Wk.eq R R R R)
  replace h := iteF h hc12
  refine LH.exit (thenX (roundX (blockH (thenN ?_))))
  obtain ⟨w18, hv, h⟩ := bindS h
  refine LH.seqT [(2, .bool w18)] [] R ?_ ?_
  ·refine sMi R (sN (oEq R R (sMb R ?_)))
   by_cases hb19 : (r7.2 == 0) = true
   ·replace hv := iteT hv hb19
    refine sT R (cB hb19) (oM (v := (.int _ _)) R (sT R (cB hb19) (oEq R R (sN (oPkT (cB hb19) (v := (.bool _)) R (sMb R ?_))))))
    by_cases hb20 : (r9.2 == 0) = true
    ·replace hv := iteT hv hb20
     refine sT R (cB hb20) (oM (v := (.int _ _)) R (sT R (cB hb20) (oEq R R (sN (oPkT (cB hb20) (v := (.bool _)) R (sMb R ?_))))))
     by_cases hb21 : (r10.2 == 0) = true
     ·replace hv := iteT hv hb21
      refine sT R (cB hb21) (oM (v := (.lst _ _)) R (sT R (cB hb21) (oM (v := (.lst _ _)) R ?_)))
      obtain ⟨r22, hr22, hv⟩ := bindS hv
      refine sT R (cB hb21) (oCP (args := [.lst 9 (List.map Gq55.lv r7.1), .lst 9 (List.map Gq55.lv r9.1)]) R isF15 R (sbR (sbR sbN)) (q98q hr22) R (sN (oPkT (cB hb21) (v := (.bool _)) R (sMb R ?_))))
      by_cases hb23 : r22 = true
      ·replace hv := iteT hv hb23
       refine sT R (cB hb23) (oM (v := (.lst _ _)) R (sT R (cB hb23) (oM (v := (.lst _ _)) R ?_)))
       obtain ⟨r24, hr24, hv⟩ := bindS hv
       refine sT R (cB hb23) (oCP (args := [.lst 9 (List.map Gq55.lv r7.1), .lst 9 (List.map Gq55.lv r10.1)]) R isF15 R (sbR (sbR sbN)) (q98q hr24) R (sN (oPkT (cB hb23) (v := (.bool _)) R (sMb R ?_))))
       by_cases hb25 : r24 = true
       ·replace hv := iteT hv hb25
        refine sT R (cB hb25) (oM (v := (.lst _ _)) R ?_)
        obtain ⟨r26, hr26, hv⟩ := bindS hv
        refine sT R (cB hb25) (oCP (args := [.lst 9 (List.map Gq55.lv r7.1)]) R isF16 R (sbR sbN) (q92q hr26) R (sT R (cB hb25) (oLnL (f := (fun (x : Int × Int) => LV.agg [.I x.1, .I x.2])) te49 R (sT R (cB hb25) (oEq R R (sN (oPkT (cB hb25) (v := (.bool _)) R (sMb R ?_))))))))
        by_cases hb27 : ((r26.length : Int) == 0) = true
        ·replace hv := iteT hv hb27
         obtain ⟨r28, hr28, hv⟩ := bindS hv
         refine sT R (cB hb27) (oCP (args := []) R isF8 R sbN (q109q hr28) R (sN (oPkT (cB hb27) (v := (.bool _)) R (sAb R ?_))))
         obtain rfl := oI hv
         exact zS
        ·replace hb27 := bF hb27
         replace hv := iteF hv hb27
         refine sF R R hb27 (sN (oPkF (cB hb27) (v := (.bool _)) R (sAb R ?_)))
         obtain rfl := oI hv
         exact zS
       ·replace hb25 := bF hb25
        replace hv := iteF hv hb25
        refine sF R R hb25 (sF R R hb25 (sF R R hb25 (sF R R hb25 (sN (oPkF (cB hb25) (v := (.bool _)) R (sMb R (sF R R R (sN (oPkF R (v := (.bool _)) R (sAb R ?_))))))))))
        obtain rfl := oI hv
        exact zS
      ·replace hb23 := bF hb23
       replace hv := iteF hv hb23
       refine sF R R hb23 (sF R R hb23 (sF R R hb23 (sN (oPkF (cB hb23) (v := (.bool _)) R (sMb R (sF R R R (sF R R R (sF R R R (sF R R R (sN (oPkF R (v := (.bool _)) R (sMb R (sF R R R (sN (oPkF R (v := (.bool _)) R (sAb R ?_))))))))))))))))
       obtain rfl := oI hv
       exact zS
     ·replace hb21 := bF hb21
      replace hv := iteF hv hb21
      refine sF R R hb21 (sF R R hb21 (sF R R hb21 (sN (oPkF (cB hb21) (v := (.bool _)) R (sMb R (sF R R R (sF R R R (sF R R R (sN (oPkF R (v := (.bool _)) R (sMb R (sF R R R (sF R R R (sF R R R (sF R R R (sN (oPkF R (v := (.bool _)) R (sMb R (sF R R R (sN (oPkF R (v := (.bool _)) R (sAb R ?_))))))))))))))))))))))
      obtain rfl := oI hv
      exact zS
    ·replace hb20 := bF hb20
     replace hv := iteF hv hb20
     refine sF R R hb20 (sF R R hb20 (sN (oPkF (cB hb20) (v := (.bool _)) R (sMb R (sF R R R (sF R R R (sF R R R (sN (oPkF R (v := (.bool _)) R (sMb R (sF R R R (sF R R R (sF R R R (sN (oPkF R (v := (.bool _)) R (sMb R (sF R R R (sF R R R (sF R R R (sF R R R (sN (oPkF R (v := (.bool _)) R (sMb R (sF R R R (sN (oPkF R (v := (.bool _)) R (sAb R ?_)))))))))))))))))))))))))))
     obtain rfl := oI hv
     exact zS
   ·replace hb19 := bF hb19
    replace hv := iteF hv hb19
    refine sF R R hb19 (sF R R hb19 (sN (oPkF (cB hb19) (v := (.bool _)) R (sMb R (sF R R R (sF R R R (sN (oPkF R (v := (.bool _)) R (sMb R (sF R R R (sF R R R (sF R R R (sN (oPkF R (v := (.bool _)) R (sMb R (sF R R R (sF R R R (sF R R R (sN (oPkF R (v := (.bool _)) R (sMb R (sF R R R (sF R R R (sF R R R (sF R R R (sN (oPkF R (v := (.bool _)) R (sMb R (sF R R R (sN (oPkF R (v := (.bool _)) R (sAb R ?_))))))))))))))))))))))))))))))))
    obtain rfl := oI hv
    exact zS
  clear hv
  refine LH.ret ?_
  obtain rfl := oI h
  exact retE (aT Try.results3) (lrT R (lr0 ⟨memN mN, R, prK R, Sub.rfl⟩))

end Go.Proofs.Ytbicmjeldappjaa
