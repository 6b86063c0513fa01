import Derived.Test.YtbicmjeldappjaaZW2
set_option linter.unusedVariables false
set_option linter.unusedSimpArgs false
set_option maxRecDepth 100000
set_option maxHeartbeats 1000000
namespace Go.Proofs.Ytbicmjeldappjaa
open Go.L Go.Sh
theorem q117q {F : Nat} {p0 : List Gq49} {p1 : Int} {r : List Gq49 × Int} (h : q79q F p0 p1 = some r) : LCall Try.prog 17 [.lst 9 (List.map Gq49.lv p0), .I p1] (Mem.of []) (.tup [.lst 9 (List.map Gq49.lv r.1), .I r.2]) (Mem.of []) := by
  unfold q79q at h
  refine bodyT Try.func17 R (nT Try.ntmps17 R) (LH.wk (Wk.eq (el := [(0, .lst 9 (List.map Gq49.lv p0)), (1, .I p1)]) (ml := []) R R R R) (LH.seqT [(0, .lst 9 (List.map Gq49.lv p0)), (1, .I p1)] [] R (sAn R (sAi R zS)) ?_))
  obtain ⟨v1, hv1, h⟩ := bindS h
  obtain ⟨r2, hr2, h⟩ := bindS h
  refine LH.seqT [(4, .lst 9 (List.map Gq49.lv r2.1)), (5, .I r2.2)] [] R (sMl R (sMi R (sX ((ok_max R R).ok) (sMl R (sN (oLnL (f := Gq49.lv) te27 R (sX ((ok_min R R).ok) (sN (oSl (f := Gq49.lv) te27 tk47 ts47 R R R hv1 (sN (oCP (args := [.lst 9 (List.map Gq49.lv v1)]) R isF12 R (sbR sbN) (q13q hr2) R (sN (oEx R R (sN (oEx R R (sAl R (sAi R zS))))))))))))))))) (LH.ret ?_)
  obtain rfl := oI h
  exact retE (aT Try.results17) (lrT R (lrT R (lr0 ⟨memN mN, R, prK R, (Sub.tup (sbR (sbR sbN)))⟩)))

theorem q97q {F : Nat} {p0 : List Gq49} {p1 : Int} {r : List Gq49} (h : q55q F p0 p1 = some r) : LCall Try.prog 24 [.lst 9 (List.map Gq49.lv p0), .I p1] (Mem.of []) (.lst 9 (List.map Gq49.lv r)) (Mem.of []) := by
  unfold q55q at h
  refine bodyT Try.func24 R (nT Try.ntmps24 R) (LH.wk (Wk.eq (el := [(0, .lst 9 (List.map Gq49.lv p0)), (1, .I p1)]) (ml := []) R R R R) (LH.seqT [(0, .lst 9 (List.map Gq49.lv p0)), (1, .I p1)] [] R (sAn R zS) (LH.seqT [(0, .lst 9 (List.map Gq49.lv p0)), (1, .I p1), (5, .nil)] [] R (sAn R zS) (LH.seq (LH.seqT [(1, .I p1), (5, .nil), (8, .lst 9 (List.map Gq49.lv p0)), (9, .I (p0.length : Int)), (10, .I 0)] [] R (sMl R (sN (oLnL (f := Gq49.lv) te27 R (sMi R zS)))) (LH.block (LH.wk ((Wk.trans (Wk.eq (el := [(1, .I p1), (5, .nil), (8, .lst 9 (List.map Gq49.lv p0)), (9, .I (p0.length : Int)), (10, .I 0)]) (ml := []) R R R R) (Wk.trans (Wk.eq (el := [(1, .I p1), (5, .nil), (8, .lst 9 (List.map Gq49.lv p0)), (9, .I (p0.length : Int)), (10, .I 0)]) (ml := []) R R R R) (Wk.trans (Wk.ownL (el' := [(1, .I p1), (5, .arr 123 (List.length ([] : List Gq49))), (8, .lst 9 (List.map Gq49.lv p0)), (9, .I (p0.length : Int)), (10, .I 0)]) 123 47 9 R R (wK (wO (wK (wK (wK wN)))))) (Wk.eq (el := [(1, .I p1), (5, .arr 123 (List.length ([] : List Gq49))), (8, .lst 9 (List.map Gq49.lv p0)), (9, .I (p0.length : Int)), (10, .I 0)]) (ml := [(123, .arr 47 9 (List.map Gq49.lv ([] : List Gq49)))]) R R R R))))) (LH.loop (fun n e m => ∃ (n1 : Int) (l2 : List Gq49), q22q p0 p1 n n1 l2 = some r ∧ e = Env.of [(1, .I p1), (5, .arr 123 (List.length l2)), (8, .lst 9 (List.map Gq49.lv p0)), (9, .I (p0.length : Int)), (10, .I n1)] ∧ m = Mem.of [(123, .arr 47 9 (List.map Gq49.lv l2))]) F ⟨0, ([] : List Gq49), h, R, R⟩ ?_))))))))
  clear h
  rintro n e m ⟨n1, l2, h, rfl, rfl⟩
  rcases n with _ | n
  · cases (show Option.none = some _ from h)
  obtain ⟨rec1, hrec1⟩ : ∃ f, f = q22q p0 p1 n := ⟨_, rfl⟩
  replace h : q34q p0 p1 rec1 n1 l2 = some r := hrec1 ▸ h
  unfold q34q at h
  refine LH.seqT [(1, .I p1), (5, .arr 123 (List.length l2)), (8, .lst 9 (List.map Gq49.lv p0)), (9, .I (p0.length : Int)), (10, .I n1), (11, .bool (decide (n1 < (p0.length : Int))))] [(123, .arr 47 9 (List.map Gq49.lv l2))] R (sN (oLt R R zS)) (LH.seq (LH.cond (t := (decide (n1 < (p0.length : Int)))) R (fun hc3 => ?_) (fun hc3 => ?_)))
  ·replace h := iteT h hc3
   refine LH.skip (thenN (LH.wk (Wk.eq (el := [(1, .I p1), (5, .arr 123 (List.length l2)), (8, .lst 9 (List.map Gq49.lv p0)), (9, .I (p0.length : Int)), (10, .I n1)]) (ml := [(123, .arr 47 9 (List.map Gq49.lv l2))]) R R R R) (LH.seq (LH.block ?_))))
   obtain ⟨x4, hx4, h⟩ := bindS h
   refine LH.seqT [(1, .I p1), (5, .arr 123 (List.length l2)), (7, .sptr (Gq49.lv x4).cells), (8, .lst 9 (List.map Gq49.lv p0)), (9, .I (p0.length : Int)), (10, .I n1)] [(123, .arr 47 9 (List.map Gq49.lv l2))] R (sN (oIx (f := Gq49.lv) te27 tk47 ts47 R R Gq49.ok hx4 R (sN (oLdA R tk47 ta47 ts47 R R (sN (oAl (id := 107) R tz47 R R (s_ (oSt R R R tk47 ts47 R R R (s0 ((Wk.trans (Wk.eq (el := [(1, .I p1), (5, .arr 123 (List.length l2)), (7, .ptr 107 0), (8, .lst 9 (List.map Gq49.lv p0)), (9, .I (p0.length : Int)), (10, .I n1)]) (ml := [(107, .box (Gq49.lv x4).cells), (123, .arr 47 9 (List.map Gq49.lv l2))]) R R R R) (Wk.trans (Wk.frzB 107 (Gq49.lv x4).cells R R R (prN R)) (Wk.eq R R R R))))))))))))) (LH.seqT [(1, .I p1), (5, .arr 123 (List.length l2)), (7, .sptr (Gq49.lv x4).cells), (8, .lst 9 (List.map Gq49.lv p0)), (9, .I (p0.length : Int)), (10, .I n1), (18, .bool (decide (x4.Stamp.Time ≤ p1)))] [(123, .arr 47 9 (List.map Gq49.lv l2))] R (sN (oFaS tf47_0 tk45 ts45 R R R (sN (oFaS tf45_0 tk3 ts3 R R R (sN (oLd R tk3 ta3 (sMi R (sN (oLe R R zS))))))))) (LH.cond (t := (decide (x4.Stamp.Time ≤ p1))) R (fun hc5 => ?_) (fun hc5 => ?_)))
   ·replace h := iteT h hc5
    obtain ⟨r6, hr6, h⟩ := bindS h
    obtain ⟨v7, hv7, h⟩ := bindS h
    refine LH.loneT [(1, .I p1), (5, .arr 123 (List.length v7)), (8, .lst 9 (List.map Gq49.lv p0)), (9, .I (p0.length : Int)), (10, .I n1)] [(123, .arr 47 9 (List.map Gq49.lv v7))] R (sMa R (sN (oLdA R tk47 ta47 ts47 R R (sN (oCP (args := [Gq49.lv x4]) R isF44 R (sbR sbN) (q99q hr6) R (sN (oBS (f := Gq49.lv) (ys := [r6]) te27 tr47 ts47 R R R Gq49.ok (sN (oAp (f := Gq49.lv) te27 tr47 ts47 R R (prN R) R hv7 (sAa R zS)))))))))) (blockN (thenN (LH.loneT [(1, .I p1), (5, .arr 123 (List.length v7)), (8, .lst 9 (List.map Gq49.lv p0)), (9, .I (p0.length : Int)), (10, .I (i64 (n1 + 1)))] [(123, .arr 47 9 (List.map Gq49.lv v7))] R (sN (oAdd R R (sMi R zS))) ?_)))
    exact roundI ⟨(i64 (n1 + 1)), v7, hrec1 ▸ h, R, R⟩ (Wk.eq R R R R)
   replace h := iteF h hc5
   refine LH.skip (blockN (thenN (LH.loneT [(1, .I p1), (5, .arr 123 (List.length l2)), (8, .lst 9 (List.map Gq49.lv p0)), (9, .I (p0.length : Int)), (10, .I (i64 (n1 + 1)))] [(123, .arr 47 9 (List.map Gq49.lv l2))] R (sN (oAdd R R (sMi R zS))) ?_)))
   exact roundI ⟨(i64 (n1 + 1)), l2, hrec1 ▸ h, R, R⟩ (Wk.eq R R R R)
  replace h := iteF h hc3
  refine LH.exit (thenX (roundX (blockH (thenN (LH.wk ((Wk.trans (Wk.eq (el := [(5, .arr 123 (List.length l2))]) (ml := [(123, .arr 47 9 (List.map Gq49.lv l2))]) R R R R) (Wk.trans (Wk.frzL (f := Gq49.lv) (el' := [(5, .lst 9 (List.map Gq49.lv l2))]) 123 47 9 l2 R R (prN R) (fZ fN)) (Wk.eq (el := [(5, .lst 9 (List.map Gq49.lv l2))]) (ml := []) R R R R)))) (LH.seqT [(4, .lst 9 (List.map Gq49.lv l2))] [] R (sMl R (sAl R zS)) (LH.ret ?_)))))))
  obtain rfl := oI h
  exact retE (aT Try.results24) (lrT R (lr0 ⟨memN mN, R, prK R, Sub.rfl⟩))

theorem q105q {F : Nat} {p0 : List Int} {p1 : Int} {r : Bool} (h : q64q F p0 p1 = some r) : LCall Try.prog 6 [.L p0, .int .u8 p1] (Mem.of []) (.bool r) (Mem.of []) := by
  unfold q64q at h
  refine bodyT Try.func6 R (nT Try.ntmps6 R) (LH.wk (Wk.eq (el := [(0, .L p0), (1, .int .u8 p1)]) (ml := []) R R R R) (LH.seqT [(0, .L p0), (1, .int .u8 p1)] [] R (sAb R zS) (LH.seq ?_)))
  obtain ⟨r1, hr1, h⟩ := bindS h
  refine LH.seqT [(0, .L p0), (1, .int .u8 p1), (19, .bool (!r1))] [] R (sMl R (sN (oCP (args := [.L p0]) R isF7 R (sbR sbN) (q126q hr1) R (sN (oNot R zS))))) (LH.cond (t := (!r1)) R (fun hc2 => ?_) (fun hc2 => ?_))
  ·replace h := iteT h hc2
   obtain ⟨r3, hr3, h⟩ := bindS h
   refine LH.seqT [(4, .bool r3)] [] R (sN (oCP (args := []) R isF8 R sbN (q108q hr3) R (sAb R zS))) (LH.ret (thenR ?_))
   obtain rfl := oI h
   exact retE (aT Try.results6) (lrT R (lr0 ⟨memN mN, R, prK R, Sub.rfl⟩))
  replace h := iteF h hc2
  refine LH.skip (thenN ?_)
  obtain ⟨r4, hr4, h⟩ := bindS h
  refine LH.seqT [(1, .int .u8 p1), (5, .ptr 9 0)] [(9, .box [.L r4.L, .I r4.At])] R (sMl R (sN (oCM (args := [.L p0]) (ml := []) (ml' := [(9, .box [.L r4.L, .I r4.At])]) R isF9 R (sbR sbN) (q129q hr4) mN (newF R newN) R (sAp R zS)))) ?_
  obtain ⟨r5, hr5, h⟩ := bindS h
  obtain ⟨r6, hr6, h⟩ := bindS h
  refine LH.seqT [(1, .int .u8 p1), (6, .lst 9 (List.map Gq49.lv r6.1))] [] R (sMp R (sMp R (sN (oCM (args := [.ptr 9 0]) (ml := [(9, .box [.L r4.L, .I r4.At])]) (ml' := [(9, .box [.L r5.2.L, .I r5.2.At])]) R isF11 R (sbR sbN) (Gq48 hr5) (mC R mN) (newI R newN) R (sN (oCM (args := [.ptr 9 0, .agg [.lst 5 (List.map Gq50.lv r5.1.Markers), .lst 7 (List.map Gq54.lv r5.1.Scripts), .lst 3 (List.map Gq52.lv r5.1.Papers), .lst 2 (List.map Gq53.lv r5.1.Schemes), .lst 2 (List.map GSeed.lv r5.1.Seeds), .I r5.1.Monitor.Part, .I r5.1.Monitor.Total, .I r5.1.Monitor.Window, .I r5.1.Monitor.Fails], .I 30]) (ml := [(9, .box [.L r5.2.L, .I r5.2.At])]) (ml' := [(9, .box [.L r6.2.L, .I r6.2.At]), (900, .arr 47 9 (List.map Gq49.lv r6.1))]) R isF10 R (sbR (sbR (sbR sbN))) (Gq5 hr6) ⟨R, trivial⟩ (newI R (newF R newN)) R (sAa R (s0 ((Wk.trans (Wk.eq (el := [(1, .int .u8 p1), (6, .arr 900 (List.length r6.1))]) (ml := [(900, .arr 47 9 (List.map Gq49.lv r6.1))]) R R R R) (Wk.trans (Wk.frzL (f := Gq49.lv) (el' := [(1, .int .u8 p1), (6, .lst 9 (List.map Gq49.lv r6.1))]) 900 47 9 r6.1 R R (prN R) (fK R (fZ fN))) (Wk.eq R R R R)))))))))))) ?_
  obtain ⟨r7, hr7, h⟩ := bindS h
  refine LH.seqT [(1, .int .u8 p1), (6, .lst 9 (List.map Gq49.lv r6.1)), (7, .lst 9 (List.map Gq49.lv r7.1)), (8, .I r7.2)] [] R (sMl R (sN (oCP (args := [.lst 9 (List.map Gq49.lv r6.1)]) R isF12 R (sbR sbN) (q13q hr7) R (sMt R (sN (oEx R R (sN (oEx R R (sAl R (sAi R zS)))))))))) ?_
  obtain ⟨r8, hr8, h⟩ := bindS h
  refine LH.seqT [(1, .int .u8 p1), (6, .lst 9 (List.map Gq49.lv r6.1)), (7, .lst 9 (List.map Gq49.lv r7.1)), (8, .I r7.2), (9, .lst 9 (List.map Gq49.lv r8))] [] R (sMl R (sMi R (sN (oCv tk5 ti3 R (sN (oCP (args := [.lst 9 (List.map Gq49.lv r7.1), .I (i64 p1)]) R isF24 R (sbR (sbR sbN)) (q97q hr8) R (sAl R zS))))))) ?_
  obtain ⟨r9, hr9, h⟩ := bindS h
  obtain ⟨r10, hr10, h⟩ := bindS h
  refine LH.seqT [(1, .int .u8 p1), (6, .lst 9 (List.map Gq49.lv r6.1)), (7, .lst 9 (List.map Gq49.lv r7.1)), (8, .I r7.2), (9, .lst 9 (List.map Gq49.lv r8)), (10, .lst 9 (List.map Gq49.lv r10.1)), (11, .I r10.2)] [] R (sMl R (sMi R (sN (oCv tk5 ti3 R (sN (oCP (args := [.lst 9 (List.map Gq49.lv r7.1), .I (i64 p1)]) R isF24 R (sbR (sbR sbN)) (q97q hr9) R (sN (oCP (args := [.lst 9 (List.map Gq49.lv r9)]) R isF12 R (sbR sbN) (q13q hr10) R (sMt R (sN (oEx R R (sN (oEx R R (sAl R (sAi R zS))))))))))))))) ?_
  obtain ⟨v11, hv11, h⟩ := bindS h
  obtain ⟨r12, hr12, h⟩ := bindS h
  refine LH.seqT [(1, .int .u8 p1), (7, .lst 9 (List.map Gq49.lv r7.1)), (8, .I r7.2), (9, .lst 9 (List.map Gq49.lv r8)), (10, .lst 9 (List.map Gq49.lv r10.1)), (11, .I r10.2), (12, .lst 9 (List.map Gq49.lv r12.1)), (13, .I r12.2)] [] R (sMl R (sMi R (sN (oCv tk5 ti3 R (sN (oRem R R hv11 (sN (oCP (args := [.lst 9 (List.map Gq49.lv r6.1), .I v11]) R isF17 R (sbR (sbR sbN)) (q117q hr12) R (sMt R (sN (oEx R R (sN (oEx R R (sAl R (sAi R zS))))))))))))))) ?_
  obtain ⟨r13, hr13, h⟩ := bindS h
  refine LH.seqT [(1, .int .u8 p1), (7, .lst 9 (List.map Gq49.lv r7.1)), (8, .I r7.2), (9, .lst 9 (List.map Gq49.lv r8)), (10, .lst 9 (List.map Gq49.lv r10.1)), (11, .I r10.2), (12, .lst 9 (List.map Gq49.lv r12.1)), (13, .I r12.2), (14, .lst 9 (List.map Gq49.lv r13.1)), (15, .I r13.2)] [] R (sMl R (sN (oCP (args := [.lst 9 (List.map Gq49.lv r12.1)]) R isF12 R (sbR sbN) (q13q hr13) R (sMt R (sN (oEx R R (sN (oEx R R (sAl R (sAi R zS)))))))))) (LH.seq (LH.seqT [(1, .int .u8 p1), (7, .lst 9 (List.map Gq49.lv r7.1)), (8, .I r7.2), (9, .lst 9 (List.map Gq49.lv r8)), (10, .lst 9 (List.map Gq49.lv r10.1)), (11, .I r10.2), (12, .lst 9 (List.map Gq49.lv r12.1)), (13, .I r12.2), (14, .lst 9 (List.map Gq49.lv r13.1)), (15, .I r13.2), (58, .I (r7.1.length : Int)), (59, .I 0)] [] R (sMl R (sN (oLnL (f := Gq49.lv) te27 R (sMi R zS)))) (LH.block (LH.loop (fun n e m => ∃ (n14 : Int), q23q F p1 r7 r8 r10 r12 r13 n n14 = some r ∧ e = Env.of [(1, .int .u8 p1), (7, .lst 9 (List.map Gq49.lv r7.1)), (8, .I r7.2), (9, .lst 9 (List.map Gq49.lv r8)), (10, .lst 9 (List.map Gq49.lv r10.1)), (11, .I r10.2), (12, .lst 9 (List.map Gq49.lv r12.1)), (13, .I r12.2), (14, .lst 9 (List.map Gq49.lv r13.1)), (15, .I r13.2), (58, .I (r7.1.length : Int)), (59, .I n14)] ∧ m = Mem.of []) F ⟨0, h, R, R⟩ ?_))))
  clear h
  rintro n e m ⟨n14, h, rfl, rfl⟩
  rcases n with _ | n
  · cases (show Option.none = some _ from h)
  obtain ⟨rec1, hrec1⟩ : ∃ f, f = q23q F p1 r7 r8 r10 r12 r13 n := ⟨_, rfl⟩
  replace h : q15q F p1 r7 r8 r10 r12 r13 rec1 n14 = some r := hrec1 ▸ h
  unfold q15q at h
  refine LH.seqT [(1, .int .u8 p1), (7, .lst 9 (List.map Gq49.lv r7.1)), (8, .I r7.2), (9, .lst 9 (List.map Gq49.lv r8)), (10, .lst 9 (List.map Gq49.lv r10.1)), (11, .I r10.2), (12, .lst 9 (List.map Gq49.lv r12.1)), (13, .I r12.2), (14, .lst 9 (List.map Gq49.lv r13.1)), (15, .I r13.2), (58, .I (r7.1.length : Int)), (59, .I n14), (60, .bool (decide (n14 < (r7.1.length : Int))))] [] R (sN (oLt R R zS)) (LH.seq (LH.cond (t := (decide (n14 < (r7.1.length : Int)))) R (fun hc15 => ?_) (fun hc15 => ?_)))
  ·replace h := iteT h hc15
   refine LH.skip (thenN (LH.wk (Wk.eq (el := [(1, .int .u8 p1), (7, .lst 9 (List.map Gq49.lv r7.1)), (8, .I r7.2), (9, .lst 9 (List.map Gq49.lv r8)), (10, .lst 9 (List.map Gq49.lv r10.1)), (11, .I r10.2), (12, .lst 9 (List.map Gq49.lv r12.1)), (13, .I r12.2), (14, .lst 9 (List.map Gq49.lv r13.1)), (15, .I r13.2), (58, .I (r7.1.length : Int)), (59, .I n14)]) (ml := []) R R R R) (LH.seq (LH.block (LH.seqT [(1, .int .u8 p1), (7, .lst 9 (List.map Gq49.lv r7.1)), (8, .I r7.2), (9, .lst 9 (List.map Gq49.lv r8)), (10, .lst 9 (List.map Gq49.lv r10.1)), (11, .I r10.2), (12, .lst 9 (List.map Gq49.lv r12.1)), (13, .I r12.2), (14, .lst 9 (List.map Gq49.lv r13.1)), (15, .I r13.2), (16, .I n14), (58, .I (r7.1.length : Int)), (59, .I n14)] [] R (sMi R (sAi R zS)) ?_)))))
   obtain ⟨x16, hx16, h⟩ := bindS h
   refine LH.seqT [(1, .int .u8 p1), (7, .lst 9 (List.map Gq49.lv r7.1)), (8, .I r7.2), (9, .lst 9 (List.map Gq49.lv r8)), (10, .lst 9 (List.map Gq49.lv r10.1)), (11, .I r10.2), (12, .lst 9 (List.map Gq49.lv r12.1)), (13, .I r12.2), (14, .lst 9 (List.map Gq49.lv r13.1)), (15, .I r13.2), (58, .I (r7.1.length : Int)), (59, .I n14), (75, .bool (!((decide (x16.Stamp.Time ≤ (i64 p1))) == (decide (n14 < (r8.length : Int))))))] [] R ?_ ?_
   ·exact sMl R (sMi R (sN (oIx (f := Gq49.lv) te27 tk47 ts47 R R Gq49.ok hx16 R (sN (oFaS tf47_0 tk45 ts45 R R R (sN (oFaS tf45_0 tk3 ts3 R R R (sN (oLd R tk3 ta3 (sMi R (sN (oCv tk5 ti3 R (sN (oLe R R (sMi R (sMl R (sN (oLnL (f := Gq49.lv) te27 R (sN (oLt R R (sN (oNeB R R tb4 zS))))))))))))))))))))))
   refine LH.cond (t := (!((decide (x16.Stamp.Time ≤ (i64 p1))) == (decide (n14 < (r8.length : Int)))))) R (fun hc17 => ?_) (fun hc17 => ?_)
   ·replace h := iteT h hc17
    refine LH.seqT [(4, .bool false)] [] R (sAb R zS) (LH.ret (blockR (thenR (roundR (blockR (thenR ?_))))))
    obtain rfl := oI h
    exact retE (aT Try.results6) (lrT R (lr0 ⟨memN mN, R, prK R, Sub.rfl⟩))
   replace h := iteF h hc17
   refine LH.skip (blockN (thenN (LH.loneT [(1, .int .u8 p1), (7, .lst 9 (List.map Gq49.lv r7.1)), (8, .I r7.2), (9, .lst 9 (List.map Gq49.lv r8)), (10, .lst 9 (List.map Gq49.lv r10.1)), (11, .I r10.2), (12, .lst 9 (List.map Gq49.lv r12.1)), (13, .I r12.2), (14, .lst 9 (List.map Gq49.lv r13.1)), (15, .I r13.2), (58, .I (r7.1.length : Int)), (59, .I (i64 (n14 + 1)))] [] R (sN (oAdd R R (sMi R zS))) ?_)))
   exact roundI ⟨(i64 (n14 + 1)), hrec1 ▸ h, R, R⟩ (Wk.eq R R R R)
  replace h := iteF h hc15
  refine LH.exit (thenX (roundX (blockH (thenN ?_))))
  obtain ⟨w19, hv, h⟩ := bindS h
  refine LH.seqT [(4, .bool w19)] [] R ?_ ?_
  ·refine sMi R (sN (oEq R R (sMb R ?_)))
   by_cases hb20 : (r7.2 == 0) = true
   ·replace hv := iteT hv hb20
    refine sT R (cB hb20) (oM (v := (.int _ _)) R (sT R (cB hb20) (oEq R R (sN (oPkT (cB hb20) (v := (.bool _)) R (sMb R ?_))))))
    by_cases hb21 : (r10.2 == 0) = true
    ·replace hv := iteT hv hb21
     refine sT R (cB hb21) (oM (v := (.int _ _)) R (sT R (cB hb21) (oEq R R (sN (oPkT (cB hb21) (v := (.bool _)) R (sMb R ?_))))))
     by_cases hb22 : (r12.2 == 0) = true
     ·replace hv := iteT hv hb22
      refine sT R (cB hb22) (oM (v := (.int _ _)) R (sT R (cB hb22) (oEq R R (sN (oPkT (cB hb22) (v := (.bool _)) R (sMb R ?_))))))
      by_cases hb23 : (r13.2 == 0) = true
      ·replace hv := iteT hv hb23
       refine sT R (cB hb23) (oM (v := (.lst _ _)) R (sT R (cB hb23) (oM (v := (.lst _ _)) R ?_)))
       obtain ⟨r24, hr24, hv⟩ := bindS hv
       refine sT R (cB hb23) (oCP (args := [.lst 9 (List.map Gq49.lv r8), .lst 9 (List.map Gq49.lv r10.1)]) R isF15 R (sbR (sbR sbN)) (q95q hr24) R (sN (oPkT (cB hb23) (v := (.bool _)) R (sMb R ?_))))
       by_cases hb25 : r24 = true
       ·replace hv := iteT hv hb25
        refine sT R (cB hb25) (oM (v := (.lst _ _)) R (sT R (cB hb25) (oM (v := (.lst _ _)) R ?_)))
        obtain ⟨r26, hr26, hv⟩ := bindS hv
        refine sT R (cB hb25) (oCP (args := [.lst 9 (List.map Gq49.lv r12.1), .lst 9 (List.map Gq49.lv r13.1)]) R isF15 R (sbR (sbR sbN)) (q95q hr26) R (sN (oPkT (cB hb25) (v := (.bool _)) R (sMb R ?_))))
        by_cases hb27 : r26 = true
        ·replace hv := iteT hv hb27
         obtain ⟨r28, hr28, hv⟩ := bindS hv
         refine sT R (cB hb27) (oCP (args := []) R isF8 R sbN (q108q hr28) R (sN (oPkT (cB hb27) (v := (.bool _)) R (sAb R ?_))))
         obtain rfl := oI hv
         exact zS
        ·replace hb27 := bF hb27
         replace hv := iteF hv hb27
         refine sF R R hb27 (sN (oPkF (cB hb27) (v := (.bool _)) R (sAb R ?_)))
         obtain rfl := oI hv
         exact zS
       ·replace hb25 := bF hb25
        replace hv := iteF hv hb25
        refine sF R R hb25 (sF R R hb25 (sF R R hb25 (sN (oPkF (cB hb25) (v := (.bool _)) R (sMb R (sF R R R (sN (oPkF R (v := (.bool _)) R (sAb R ?_)))))))))
        obtain rfl := oI hv
        exact zS
      ·replace hb23 := bF hb23
       replace hv := iteF hv hb23
       refine sF R R hb23 (sF R R hb23 (sF R R hb23 (sN (oPkF (cB hb23) (v := (.bool _)) R (sMb R (sF R R R (sF R R R (sF R R R (sN (oPkF R (v := (.bool _)) R (sMb R (sF R R R (sN (oPkF R (v := (.bool _)) R (sAb R ?_)))))))))))))))
       obtain rfl := oI hv
       exact zS
     ·replace hb22 := bF hb22
      replace hv := iteF hv hb22
      refine sF R R hb22 (sF R R hb22 (sN (oPkF (cB hb22) (v := (.bool _)) R (sMb R (sF R R R (sF R R R (sF R R R (sN (oPkF R (v := (.bool _)) R (sMb R (sF R R R (sF R R R (sF R R R (sN (oPkF R (v := (.bool _)) R (sMb R (sF R R R (sN (oPkF R (v := (.bool _)) R (sAb R ?_))))))))))))))))))))
      obtain rfl := oI hv
      exact zS
    ·replace hb21 := bF hb21
     replace hv := iteF hv hb21
     refine sF R R hb21 (sF R R hb21 (sN (oPkF (cB hb21) (v := (.bool _)) R (sMb R (sF R R R (sF R R R (sN (oPkF R (v := (.bool _)) R (sMb R (sF R R R (sF R R R (sF R R R (sN (oPkF R (v := (.bool _)) R (sMb R (sF R R R (sF R R R (sF R R R (sN (oPkF R (v := (.bool _)) R (sMb R (sF R R R (sN (oPkF R (v := (.bool _)) R (sAb R ?_)))))))))))))))))))))))))
     obtain rfl := oI hv
     exact zS
   ·replace hb20 := bF hb20
    replace hv := iteF hv hb20
    refine sF R R hb20 (sF R R hb20 (sN (oPkF (cB hb20) (v := (.bool _)) R (sMb R (sF R R R (sF R R R (sN (oPkF R (v := (.bool _)) R (sMb R (sF R R R (sF R R R (sN (oPkF R (v := (.bool _)) R (sMb R (sF R R R (sF R R R (sF R R R (sN (oPkF R (v := (.bool _)) R (sMb R (sF R R R (sF R R R (sF R R R (sN (oPkF R (v := (.bool _)) R (sMb R (sF R R R (sN (oPkF R (v := (.bool _)) R (sAb R ?_))))))))))))))))))))))))))))))
    obtain rfl := oI hv
    exact zS
  clear hv
  refine LH.ret ?_
  obtain rfl := oI h
  exact retE (aT Try.results6) (lrT R (lr0 ⟨memN mN, R, prK R, Sub.rfl⟩))

end Go.Proofs.Ytbicmjeldappjaa
