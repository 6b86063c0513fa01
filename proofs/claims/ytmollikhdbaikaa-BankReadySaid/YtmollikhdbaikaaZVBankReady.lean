import Derived.Test.YtmollikhdbaikaaZW3
set_option linter.unusedVariables false
set_option linter.unusedSimpArgs false
set_option maxRecDepth 100000
set_option maxHeartbeats 1000000
namespace Go.Proofs.Ytmollikhdbaikaa
open Go.L Go.Sh
theorem bank_cloneRecord_ok {F : Nat} {p0 : Gq2} {r : Gq2} (h : bank_cloneRecord F p0 = some r) : LCall Try.prog 41 [.agg [.I p0.ID, .lst 5 (List.map GItem.lv p0.Versions), .lst 1 (List.map LV.bool p0.Approved), .lst 3 (List.map GUse.lv p0.Uses), .bool p0.Withdrawn]] (Mem.of []) (.agg [.I r.ID, .arr 109 (List.length r.Versions), .arr 128 (List.length r.Approved), .arr 132 (List.length r.Uses), .bool r.Withdrawn]) (Mem.of [(109, .arr 34 5 (List.map GItem.lv r.Versions)), (128, .arr 4 1 (List.map LV.bool r.Approved)), (132, .arr 102 3 (List.map GUse.lv r.Uses))]) := by
  unfold bank_cloneRecord at h
  refine bodyT Try.func41 R (nT Try.ntmps41 R) (LH.wk (Wk.eq (el := [(0, .agg [.I p0.ID, .lst 5 (List.map GItem.lv p0.Versions), .lst 1 (List.map LV.bool p0.Approved), .lst 3 (List.map GUse.lv p0.Uses), .bool p0.Withdrawn])]) (ml := []) R R R R) (LH.seqT [(1, .ptr 101 0), (2, .ptr 102 0)] [(101, .box [.I p0.ID, .lst 5 (List.map GItem.lv p0.Versions), .lst 1 (List.map LV.bool p0.Approved), .lst 3 (List.map GUse.lv p0.Uses), .bool p0.Withdrawn]), (102, .box [.I 0, .nil, .nil, .nil, .bool false])] R (sN (oBx (id := 101) R R R R R R (sN (oAl (id := 102) R tz58 R R zS)))) ?_))
  obtain ⟨v1, hv1, h⟩ := bindS h
  refine LH.seqT [(1, .ptr 101 0), (2, .ptr 102 0), (3, .arr 109 (List.length v1))] [(101, .box [.I p0.ID, .lst 5 (List.map GItem.lv p0.Versions), .lst 1 (List.map LV.bool p0.Approved), .lst 3 (List.map GUse.lv p0.Uses), .bool p0.Withdrawn]), (102, .box [.I 0, .nil, .nil, .nil, .bool false]), (109, .arr 34 5 (List.map GItem.lv v1))] R (sN (oFa tf58_1 tk54 ts54 R R (sN (oLdP R R R R tk54 ta54 (sN (oLnL (f := GItem.lv) te54 R (sX (ok_mkS (f := GItem.lv) (z := (GItem.mk 0 0 (ByteArray.mk #[]) [] [])) (id := 109) R te54 tz34 tr34 ts34 R R R (Sub.agg (sbR (sbR (sbR (sbL (sbL sbN)))))) GItem.ok hv1 R) (sAa R zS)))))))) (LH.seq (LH.seqT [(1, .ptr 101 0), (2, .ptr 102 0), (3, .arr 109 (List.length v1)), (11, .lst 5 (List.map GItem.lv p0.Versions)), (12, .I (p0.Versions.length : Int)), (13, .I 0)] [(101, .box [.I p0.ID, .lst 5 (List.map GItem.lv p0.Versions), .lst 1 (List.map LV.bool p0.Approved), .lst 3 (List.map GUse.lv p0.Uses), .bool p0.Withdrawn]), (102, .box [.I 0, .nil, .nil, .nil, .bool false]), (109, .arr 34 5 (List.map GItem.lv v1))] R (sN (oFa tf58_1 tk54 ts54 R R (sN (oLdP R R R R tk54 ta54 (sN (oLnL (f := GItem.lv) te54 R (sMi R zS))))))) (LH.block (LH.loop (fun n e m => ∃ (n2 : Int) (l3 : List GItem), bank_cloneRecord_L1 p0 n n2 l3 = some r ∧ e = Env.of [(1, .ptr 101 0), (2, .ptr 102 0), (3, .arr 109 (List.length l3)), (11, .lst 5 (List.map GItem.lv p0.Versions)), (12, .I (p0.Versions.length : Int)), (13, .I n2)] ∧ m = Mem.of [(101, .box [.I p0.ID, .lst 5 (List.map GItem.lv p0.Versions), .lst 1 (List.map LV.bool p0.Approved), .lst 3 (List.map GUse.lv p0.Uses), .bool p0.Withdrawn]), (102, .box [.I 0, .nil, .nil, .nil, .bool false]), (109, .arr 34 5 (List.map GItem.lv l3))]) F ⟨0, v1, h, R, R⟩ ?_))))
  clear h
  rintro n e m ⟨n2, l3, h, rfl, rfl⟩
  rcases n with _ | n
  · cases (show Option.none = some _ from h)
  obtain ⟨rec1, hrec1⟩ : ∃ f, f = bank_cloneRecord_L1 p0 n := ⟨_, rfl⟩
  replace h : bank_cloneRecord_L1_B p0 rec1 n2 l3 = some r := hrec1 ▸ h
  unfold bank_cloneRecord_L1_B at h
  refine LH.seqT [(1, .ptr 101 0), (2, .ptr 102 0), (3, .arr 109 (List.length l3)), (11, .lst 5 (List.map GItem.lv p0.Versions)), (12, .I (p0.Versions.length : Int)), (13, .I n2), (14, .bool (decide (n2 < (p0.Versions.length : Int))))] [(101, .box [.I p0.ID, .lst 5 (List.map GItem.lv p0.Versions), .lst 1 (List.map LV.bool p0.Approved), .lst 3 (List.map GUse.lv p0.Uses), .bool p0.Withdrawn]), (102, .box [.I 0, .nil, .nil, .nil, .bool false]), (109, .arr 34 5 (List.map GItem.lv l3))] R (sN (oLt R R zS)) (LH.seq (LH.cond (t := (decide (n2 < (p0.Versions.length : Int)))) R (fun hc4 => ?_) (fun hc4 => ?_)))
  ·replace h := iteT h hc4
   refine LH.skip (thenN (LH.wk (Wk.eq (el := [(1, .ptr 101 0), (2, .ptr 102 0), (3, .arr 109 (List.length l3)), (11, .lst 5 (List.map GItem.lv p0.Versions)), (12, .I (p0.Versions.length : Int)), (13, .I n2)]) (ml := [(101, .box [.I p0.ID, .lst 5 (List.map GItem.lv p0.Versions), .lst 1 (List.map LV.bool p0.Approved), .lst 3 (List.map GUse.lv p0.Uses), .bool p0.Withdrawn]), (102, .box [.I 0, .nil, .nil, .nil, .bool false]), (109, .arr 34 5 (List.map GItem.lv l3))]) R R R R) (LH.seq (LH.block ?_))))
   obtain ⟨x5, hx5, h⟩ := bindS h
   refine LH.seqT [(1, .ptr 101 0), (2, .ptr 102 0), (3, .arr 109 (List.length l3)), (4, .I n2), (5, .sptr [.I x5.ID, .I x5.Version, .str x5.Stem, .lst 6 (List.map GPart.lv x5.Parts), .L x5.Enemies]), (11, .lst 5 (List.map GItem.lv p0.Versions)), (12, .I (p0.Versions.length : Int)), (13, .I n2)] [(101, .box [.I p0.ID, .lst 5 (List.map GItem.lv p0.Versions), .lst 1 (List.map LV.bool p0.Approved), .lst 3 (List.map GUse.lv p0.Uses), .bool p0.Withdrawn]), (102, .box [.I 0, .nil, .nil, .nil, .bool false]), (109, .arr 34 5 (List.map GItem.lv l3))] R (sMi R (sN (oIx (f := GItem.lv) te54 tk34 ts34 R R GItem.ok hx5 R (sN (oLdA R tk34 ta34 ts34 R R (sN (oAl (id := 105) R tz34 R R (sAi R (s_ (oSt R R R tk34 ts34 R R R (s0 ((Wk.trans (Wk.eq (el := [(1, .ptr 101 0), (2, .ptr 102 0), (3, .arr 109 (List.length l3)), (4, .I n2), (5, .ptr 105 0), (11, .lst 5 (List.map GItem.lv p0.Versions)), (12, .I (p0.Versions.length : Int)), (13, .I n2)]) (ml := [(101, .box [.I p0.ID, .lst 5 (List.map GItem.lv p0.Versions), .lst 1 (List.map LV.bool p0.Approved), .lst 3 (List.map GUse.lv p0.Uses), .bool p0.Withdrawn]), (102, .box [.I 0, .nil, .nil, .nil, .bool false]), (105, .box [.I x5.ID, .I x5.Version, .str x5.Stem, .lst 6 (List.map GPart.lv x5.Parts), .L x5.Enemies]), (109, .arr 34 5 (List.map GItem.lv l3))]) R R R R) (Wk.trans (Wk.frzB 105 [.I x5.ID, .I x5.Version, .str x5.Stem, .lst 6 (List.map GPart.lv x5.Parts), .L x5.Enemies] R R R (prN R)) (Wk.eq R R R R))))))))))))))) ?_
   obtain ⟨r6, hr6, h⟩ := bindS h
   obtain ⟨x7, hx7, h⟩ := bindS h
   refine LH.loneT [(1, .ptr 101 0), (2, .ptr 102 0), (3, .arr 109 (List.length (l3.set n2.toNat r6))), (11, .lst 5 (List.map GItem.lv p0.Versions)), (12, .I (p0.Versions.length : Int)), (13, .I n2)] [(101, .box [.I p0.ID, .lst 5 (List.map GItem.lv p0.Versions), .lst 1 (List.map LV.bool p0.Approved), .lst 3 (List.map GUse.lv p0.Uses), .bool p0.Withdrawn]), (102, .box [.I 0, .nil, .nil, .nil, .bool false]), (109, .arr 34 5 (List.map GItem.lv (l3.set n2.toNat r6)))] R (sMa R (sMi R (sN (oLdA R tk34 ta34 ts34 R R (sN (oCP (args := [.agg [.I x5.ID, .I x5.Version, .str x5.Stem, .lst 6 (List.map GPart.lv x5.Parts), .L x5.Enemies]]) R isF34 R (sbR sbN) (bank_cloneItem_ok hr6) R (sN (oIxA (f := GItem.lv) te54 tk34 ts34 R R R hx7 (s_ (oStE (f := GItem.lv) (z' := r6) R R R R tk34 ts34 R (idxOk hx7).2 R (s0 (Wk.to (eC R (eC R (eC (congrArg (LV.arr 109) (by simp)) (eC R (eC R (eC R eN)))))) ⟨R, R, R, trivial⟩ R (prK R))))))))))))) (blockN (thenN (LH.loneT [(1, .ptr 101 0), (2, .ptr 102 0), (3, .arr 109 (List.length (l3.set n2.toNat r6))), (11, .lst 5 (List.map GItem.lv p0.Versions)), (12, .I (p0.Versions.length : Int)), (13, .I (i64 (n2 + 1)))] [(101, .box [.I p0.ID, .lst 5 (List.map GItem.lv p0.Versions), .lst 1 (List.map LV.bool p0.Approved), .lst 3 (List.map GUse.lv p0.Uses), .bool p0.Withdrawn]), (102, .box [.I 0, .nil, .nil, .nil, .bool false]), (109, .arr 34 5 (List.map GItem.lv (l3.set n2.toNat r6)))] R (sN (oAdd R R (sMi R zS))) ?_)))
   exact roundI ⟨(i64 (n2 + 1)), (l3.set n2.toNat r6), hrec1 ▸ h, R, R⟩ (Wk.eq R R R R)
  replace h := iteF h hc4
  refine LH.exit (thenX (roundX (blockH (thenN (LH.seqT [(1, .ptr 101 0), (2, .ptr 102 0)] [(101, .box [.I p0.ID, .arr 109 (List.length l3), .lst 1 (List.map LV.bool p0.Approved), .lst 3 (List.map GUse.lv p0.Uses), .bool p0.Withdrawn]), (102, .box [.I 0, .nil, .nil, .nil, .bool false]), (109, .arr 34 5 (List.map GItem.lv l3))] R (sMa R (sN (oFa tf58_1 tk54 ts54 R R (s_ (oSt R R R tk54 ts54 R R R zS))))) ?_)))))
  obtain ⟨v8, hv8, h⟩ := bindS h
  refine LH.seqT [(1, .ptr 101 0), (2, .ptr 102 0)] [(101, .box [.I p0.ID, .arr 109 (List.length l3), .arr 128 (List.length v8), .lst 3 (List.map GUse.lv p0.Uses), .bool p0.Withdrawn]), (102, .box [.I 0, .nil, .nil, .nil, .bool false]), (109, .arr 34 5 (List.map GItem.lv l3)), (128, .arr 4 1 (List.map LV.bool v8))] R (sN (oFa tf58_2 tk55 ts55 R R (sN (oLdP R R R R tk55 ta55 (sN (oCM (args := [.lst 1 (List.map LV.bool p0.Approved)]) (ml := []) (ml' := [(128, .arr 4 1 (List.map LV.bool v8))]) R isF64 R (sbR sbN) (clone_ok (g := LV.bool) cloneW64 R 128 hv8) mN (newF R newN) R (sN (oFa tf58_2 tk55 ts55 R R (s_ (oSt R R R tk55 ts55 R R R zS)))))))))) ?_
  obtain ⟨v9, hv9, h⟩ := bindS h
  refine LH.seqT [(1, .ptr 101 0), (2, .ptr 102 0)] [(101, .box [.I p0.ID, .arr 109 (List.length l3), .arr 128 (List.length v8), .arr 132 (List.length v9), .bool p0.Withdrawn]), (102, .box [.I 0, .nil, .nil, .nil, .bool false]), (109, .arr 34 5 (List.map GItem.lv l3)), (128, .arr 4 1 (List.map LV.bool v8)), (132, .arr 102 3 (List.map GUse.lv v9))] R (sN (oFa tf58_3 tk56 ts56 R R (sN (oLdP R R R R tk56 ta56 (sN (oCM (args := [.lst 3 (List.map GUse.lv p0.Uses)]) (ml := []) (ml' := [(132, .arr 102 3 (List.map GUse.lv v9))]) R isF65 R (sbR sbN) (clone_ok (g := GUse.lv) cloneW65 R 132 hv9) mN (newF R newN) R (sN (oFa tf58_3 tk56 ts56 R R (s_ (oSt R R R tk56 ts56 R R R zS)))))))))) (LH.seqT [(2, .ptr 102 0)] [(102, .box [.I p0.ID, .arr 109 (List.length l3), .arr 128 (List.length v8), .arr 132 (List.length v9), .bool p0.Withdrawn]), (109, .arr 34 5 (List.map GItem.lv l3)), (128, .arr 4 1 (List.map LV.bool v8)), (132, .arr 102 3 (List.map GUse.lv v9))] R (sN (oLdPA R R R tk58 ta58 ts58 R R (s_ (oSt R R R tk58 ts58 R R R zS)))) (LH.ret ?_))
  obtain rfl := oI h
  exact retE (aT Try.results41) (lrCA R R R tk58 ta58 ts58 R R (lr0 ⟨memN (mC R (mC R (mC R mN))), R, prK R, Sub.rfl⟩))

theorem bank_Find_ok {F : Nat} {p0 : GBank} {p1 : Int} {r : Gq2 × Bool} (h : bank_Find F p0 p1 = some r) : LCall Try.prog 22 [.agg [.lst 5 (List.map Gq2.lv p0.Records)], .I p1] (Mem.of []) (.tup [.agg [.I r.1.ID, .lst 5 (List.map GItem.lv r.1.Versions), .lst 1 (List.map LV.bool r.1.Approved), .lst 3 (List.map GUse.lv r.1.Uses), .bool r.1.Withdrawn], .bool r.2]) (Mem.of []) := by
  unfold bank_Find at h
  refine bodyT Try.func22 R (nT Try.ntmps22 R) (LH.wk (Wk.eq (el := [(0, .agg [.lst 5 (List.map Gq2.lv p0.Records)]), (1, .I p1)]) (ml := []) R R R R) (LH.seqT [(1, .I p1), (2, .sptr [.lst 5 (List.map Gq2.lv p0.Records)]), (4, .ptr 104 0)] [(104, .box [.I 0, .nil, .nil, .nil, .bool false])] R (sB (oBxR R R R R (sN (oAl (id := 104) R tz58 R R (sAb R zS))))) (LH.seq (LH.seqT [(1, .I p1), (4, .ptr 104 0), (9, .lst 5 (List.map Gq2.lv p0.Records)), (10, .I (p0.Records.length : Int)), (11, .I 0)] [(104, .box [.I 0, .nil, .nil, .nil, .bool false])] R (sN (oFaS tf47_0 tk45 ts45 R R R (sN (oLd R tk45 ta45 (sN (oLnL (f := Gq2.lv) te45 R (sMi R zS))))))) (LH.block (LH.loop (fun n e m => ∃ (n1 : Int), bank_Find_L1 F p0 p1 n n1 = some r ∧ e = Env.of [(1, .I p1), (4, .ptr 104 0), (9, .lst 5 (List.map Gq2.lv p0.Records)), (10, .I (p0.Records.length : Int)), (11, .I n1)] ∧ m = Mem.of [(104, .box [.I 0, .nil, .nil, .nil, .bool false])]) F ⟨0, h, R, R⟩ ?_))))))
  clear h
  rintro n e m ⟨n1, h, rfl, rfl⟩
  rcases n with _ | n
  · cases (show Option.none = some _ from h)
  obtain ⟨rec1, hrec1⟩ : ∃ f, f = bank_Find_L1 F p0 p1 n := ⟨_, rfl⟩
  replace h : bank_Find_L1_B F p0 p1 rec1 n1 = some r := hrec1 ▸ h
  unfold bank_Find_L1_B at h
  refine LH.seqT [(1, .I p1), (4, .ptr 104 0), (9, .lst 5 (List.map Gq2.lv p0.Records)), (10, .I (p0.Records.length : Int)), (11, .I n1), (12, .bool (decide (n1 < (p0.Records.length : Int))))] [(104, .box [.I 0, .nil, .nil, .nil, .bool false])] R (sN (oLt R R zS)) (LH.seq (LH.cond (t := (decide (n1 < (p0.Records.length : Int)))) R (fun hc2 => ?_) (fun hc2 => ?_)))
  ·replace h := iteT h hc2
   refine LH.skip (thenN (LH.wk (Wk.eq (el := [(1, .I p1), (4, .ptr 104 0), (9, .lst 5 (List.map Gq2.lv p0.Records)), (10, .I (p0.Records.length : Int)), (11, .I n1)]) (ml := [(104, .box [.I 0, .nil, .nil, .nil, .bool false])]) R R R R) (LH.seq (LH.block ?_))))
   obtain ⟨x3, hx3, h⟩ := bindS h
   refine LH.seqT [(1, .I p1), (4, .ptr 104 0), (7, .sptr [.I x3.ID, .lst 5 (List.map GItem.lv x3.Versions), .lst 1 (List.map LV.bool x3.Approved), .lst 3 (List.map GUse.lv x3.Uses), .bool x3.Withdrawn]), (9, .lst 5 (List.map Gq2.lv p0.Records)), (10, .I (p0.Records.length : Int)), (11, .I n1)] [(104, .box [.I 0, .nil, .nil, .nil, .bool false])] R (sN (oIx (f := Gq2.lv) te45 tk58 ts58 R R Gq2.ok hx3 R (sN (oLdA R tk58 ta58 ts58 R R (sN (oAl (id := 107) R tz58 R R (s_ (oSt R R R tk58 ts58 R R R (s0 ((Wk.trans (Wk.eq (el := [(1, .I p1), (4, .ptr 104 0), (7, .ptr 107 0), (9, .lst 5 (List.map Gq2.lv p0.Records)), (10, .I (p0.Records.length : Int)), (11, .I n1)]) (ml := [(104, .box [.I 0, .nil, .nil, .nil, .bool false]), (107, .box [.I x3.ID, .lst 5 (List.map GItem.lv x3.Versions), .lst 1 (List.map LV.bool x3.Approved), .lst 3 (List.map GUse.lv x3.Uses), .bool x3.Withdrawn])]) R R R R) (Wk.trans (Wk.frzB 107 [.I x3.ID, .lst 5 (List.map GItem.lv x3.Versions), .lst 1 (List.map LV.bool x3.Approved), .lst 3 (List.map GUse.lv x3.Uses), .bool x3.Withdrawn] R R R (prN R)) (Wk.eq R R R R))))))))))))) (LH.seqT [(1, .I p1), (4, .ptr 104 0), (7, .sptr [.I x3.ID, .lst 5 (List.map GItem.lv x3.Versions), .lst 1 (List.map LV.bool x3.Approved), .lst 3 (List.map GUse.lv x3.Uses), .bool x3.Withdrawn]), (9, .lst 5 (List.map Gq2.lv p0.Records)), (10, .I (p0.Records.length : Int)), (11, .I n1), (18, .bool (x3.ID == p1))] [(104, .box [.I 0, .nil, .nil, .nil, .bool false])] R (sN (oFaS tf58_0 tk3 ts3 R R R (sN (oLd R tk3 ta3 (sMi R (sN (oEq R R zS))))))) (LH.cond (t := (x3.ID == p1)) R (fun hc4 => ?_) (fun hc4 => ?_)))
   ·replace h := iteT h hc4
    obtain ⟨r5, hr5, h⟩ := bindS h
    refine LH.seqT [(4, .sptr [.I r5.ID, .lst 5 (List.map GItem.lv r5.Versions), .lst 1 (List.map LV.bool r5.Approved), .lst 3 (List.map GUse.lv r5.Uses), .bool r5.Withdrawn]), (5, .bool true)] [] R (sN (oLdA R tk58 ta58 ts58 R R (sN (oCM (args := [.agg [.I x3.ID, .lst 5 (List.map GItem.lv x3.Versions), .lst 1 (List.map LV.bool x3.Approved), .lst 3 (List.map GUse.lv x3.Uses), .bool x3.Withdrawn]]) (ml := []) (ml' := [(109, .arr 34 5 (List.map GItem.lv r5.Versions)), (128, .arr 4 1 (List.map LV.bool r5.Approved)), (132, .arr 102 3 (List.map GUse.lv r5.Uses))]) R isF41 R (sbR sbN) (bank_cloneRecord_ok hr5) mN (newF R (newF R (newF R newN))) R (s_ (oSt R R R tk58 ts58 R R R (sAb R (s0 ((Wk.trans (Wk.eq (el := [(4, .ptr 104 0), (5, .bool true)]) (ml := [(104, .box [.I r5.ID, .arr 109 (List.length r5.Versions), .arr 128 (List.length r5.Approved), .arr 132 (List.length r5.Uses), .bool r5.Withdrawn]), (109, .arr 34 5 (List.map GItem.lv r5.Versions)), (128, .arr 4 1 (List.map LV.bool r5.Approved)), (132, .arr 102 3 (List.map GUse.lv r5.Uses))]) R R R R) (Wk.trans (Wk.eq (el := [(4, .ptr 104 0), (5, .bool true)]) (ml := [(104, .box [.I r5.ID, .arr 109 (List.length r5.Versions), .arr 128 (List.length r5.Approved), .arr 132 (List.length r5.Uses), .bool r5.Withdrawn]), (109, .arr 34 5 (List.map GItem.lv r5.Versions)), (128, .arr 4 1 (List.map LV.bool r5.Approved)), (132, .arr 102 3 (List.map GUse.lv r5.Uses))]) R R R R) (Wk.trans (Wk.trans (Wk.frzBx (f := GItem.lv) 109 34 5 r5.Versions 104 R R R (frAK R (frAZ (frAK R (frAK R (frAK R frA0))))) R R (prN R)) (Wk.eq (el := [(4, .ptr 104 0), (5, .bool true)]) (ml := [(104, .box [.I r5.ID, .lst 5 (List.map GItem.lv r5.Versions), .arr 128 (List.length r5.Approved), .arr 132 (List.length r5.Uses), .bool r5.Withdrawn]), (128, .arr 4 1 (List.map LV.bool r5.Approved)), (132, .arr 102 3 (List.map GUse.lv r5.Uses))]) R R R R)) (Wk.trans (Wk.eq (el := [(4, .ptr 104 0), (5, .bool true)]) (ml := [(104, .box [.I r5.ID, .lst 5 (List.map GItem.lv r5.Versions), .arr 128 (List.length r5.Approved), .arr 132 (List.length r5.Uses), .bool r5.Withdrawn]), (128, .arr 4 1 (List.map LV.bool r5.Approved)), (132, .arr 102 3 (List.map GUse.lv r5.Uses))]) R R R R) (Wk.trans (Wk.trans (Wk.frzBx (f := LV.bool) 128 4 1 r5.Approved 104 R R R (frAK R (frAK R (frAZ (frAK R (frAK R frA0))))) R R (prN R)) (Wk.eq (el := [(4, .ptr 104 0), (5, .bool true)]) (ml := [(104, .box [.I r5.ID, .lst 5 (List.map GItem.lv r5.Versions), .lst 1 (List.map LV.bool r5.Approved), .arr 132 (List.length r5.Uses), .bool r5.Withdrawn]), (132, .arr 102 3 (List.map GUse.lv r5.Uses))]) R R R R)) (Wk.trans (Wk.eq (el := [(4, .ptr 104 0), (5, .bool true)]) (ml := [(104, .box [.I r5.ID, .lst 5 (List.map GItem.lv r5.Versions), .lst 1 (List.map LV.bool r5.Approved), .arr 132 (List.length r5.Uses), .bool r5.Withdrawn]), (132, .arr 102 3 (List.map GUse.lv r5.Uses))]) R R R R) (Wk.trans (Wk.trans (Wk.frzBx (f := GUse.lv) 132 102 3 r5.Uses 104 R R R (frAK R (frAK R (frAK R (frAZ (frAK R frA0))))) R R (prN R)) (Wk.eq (el := [(4, .ptr 104 0), (5, .bool true)]) (ml := [(104, .box [.I r5.ID, .lst 5 (List.map GItem.lv r5.Versions), .lst 1 (List.map LV.bool r5.Approved), .lst 3 (List.map GUse.lv r5.Uses), .bool r5.Withdrawn])]) R R R R)) (Wk.trans (Wk.frzB 104 [.I r5.ID, .lst 5 (List.map GItem.lv r5.Versions), .lst 1 (List.map LV.bool r5.Approved), .lst 3 (List.map GUse.lv r5.Uses), .bool r5.Withdrawn] R R R (prN R)) (Wk.eq R R R R)))))))))))))))))) (LH.ret (blockR (thenR (roundR (blockR (thenR ?_))))))
    obtain rfl := oI h
    exact retE (aT Try.results22) (lrSA R tk58 ta58 ts58 R R (lrT R (lr0 ⟨memN mN, R, prK R, (Sub.tup (sbR (sbR sbN)))⟩)))
   replace h := iteF h hc4
   refine LH.skip (blockN (thenN (LH.loneT [(1, .I p1), (4, .ptr 104 0), (9, .lst 5 (List.map Gq2.lv p0.Records)), (10, .I (p0.Records.length : Int)), (11, .I (i64 (n1 + 1)))] [(104, .box [.I 0, .nil, .nil, .nil, .bool false])] R (sN (oAdd R R (sMi R zS))) ?_)))
   exact roundI ⟨(i64 (n1 + 1)), hrec1 ▸ h, R, R⟩ (Wk.eq R R R R)
  replace h := iteF h hc2
  refine LH.exit (thenX (roundX (blockH (thenN (LH.seqT [(4, .sptr [.I 0, .nil, .nil, .nil, .bool false]), (5, .bool false)] [] R (sN (oBd (vs := []) tu58 tz58 R lf0 (s_ (oSt R R R tk58 ts58 R R R (sAb R (s0 ((Wk.trans (Wk.eq (el := [(4, .ptr 104 0), (5, .bool false)]) (ml := [(104, .box [.I 0, .nil, .nil, .nil, .bool false])]) R R R R) (Wk.trans (Wk.frzB 104 [.I 0, .nil, .nil, .nil, .bool false] R R R (prN R)) (Wk.eq R R R R)))))))))) (LH.ret ?_))))))
  obtain rfl := oI h
  exact retE (aT Try.results22) (lrSA R tk58 ta58 ts58 R R (lrT R (lr0 ⟨memN mN, R, prK R, (Sub.tup (sbS (Sub.agg (sbR (sbL (sbL (sbL (sbR sbN)))))) (sbR sbN)))⟩)))

theorem bank_Version_ok {F : Nat} {p0 : GBank} {p1 : GRef} {r : GItem × Bool} (h : bank_Version F p0 p1 = some r) : LCall Try.prog 25 [.agg [.lst 5 (List.map Gq2.lv p0.Records)], .agg [.I p1.ID, .I p1.Version]] (Mem.of []) (.tup [.agg [.I r.1.ID, .I r.1.Version, .str r.1.Stem, .lst 6 (List.map GPart.lv r.1.Parts), .L r.1.Enemies], .bool r.2]) (Mem.of []) := by
  unfold bank_Version at h
  refine bodyT Try.func25 R (nT Try.ntmps25 R) (LH.wk (Wk.eq (el := [(0, .agg [.lst 5 (List.map Gq2.lv p0.Records)]), (1, .agg [.I p1.ID, .I p1.Version])]) (ml := []) R R R R) (LH.seqT [(2, .sptr [.lst 5 (List.map Gq2.lv p0.Records)]), (3, .sptr [.I p1.ID, .I p1.Version]), (4, .ptr 104 0)] [(104, .box [.I 0, .I 0, .str (ByteArray.mk #[]), .nil, .nil])] R (sB (oBxR R R R R (sB (oBxR R R R R (sN (oAl (id := 104) R tz34 R R (sAb R zS))))))) (LH.seq (LH.seqT [(3, .sptr [.I p1.ID, .I p1.Version]), (4, .ptr 104 0), (9, .lst 5 (List.map Gq2.lv p0.Records)), (10, .I (p0.Records.length : Int)), (11, .I 0)] [(104, .box [.I 0, .I 0, .str (ByteArray.mk #[]), .nil, .nil])] R (sN (oFaS tf47_0 tk45 ts45 R R R (sN (oLd R tk45 ta45 (sN (oLnL (f := Gq2.lv) te45 R (sMi R zS))))))) (LH.block (LH.loop (fun n e m => ∃ (n1 : Int), bank_Version_L1 p0 p1 n n1 = some r ∧ e = Env.of [(3, .sptr [.I p1.ID, .I p1.Version]), (4, .ptr 104 0), (9, .lst 5 (List.map Gq2.lv p0.Records)), (10, .I (p0.Records.length : Int)), (11, .I n1)] ∧ m = Mem.of [(104, .box [.I 0, .I 0, .str (ByteArray.mk #[]), .nil, .nil])]) F ⟨0, h, R, R⟩ ?_))))))
  clear h
  rintro n e m ⟨n1, h, rfl, rfl⟩
  rcases n with _ | n
  · cases (show Option.none = some _ from h)
  obtain ⟨rec1, hrec1⟩ : ∃ f, f = bank_Version_L1 p0 p1 n := ⟨_, rfl⟩
  replace h : bank_Version_L1_B p0 p1 rec1 n1 = some r := hrec1 ▸ h
  unfold bank_Version_L1_B at h
  refine LH.seqT [(3, .sptr [.I p1.ID, .I p1.Version]), (4, .ptr 104 0), (9, .lst 5 (List.map Gq2.lv p0.Records)), (10, .I (p0.Records.length : Int)), (11, .I n1), (12, .bool (decide (n1 < (p0.Records.length : Int))))] [(104, .box [.I 0, .I 0, .str (ByteArray.mk #[]), .nil, .nil])] R (sN (oLt R R zS)) (LH.seq (LH.cond (t := (decide (n1 < (p0.Records.length : Int)))) R (fun hc2 => ?_) (fun hc2 => ?_)))
  ·replace h := iteT h hc2
   refine LH.skip (thenN (LH.wk (Wk.eq (el := [(3, .sptr [.I p1.ID, .I p1.Version]), (4, .ptr 104 0), (9, .lst 5 (List.map Gq2.lv p0.Records)), (10, .I (p0.Records.length : Int)), (11, .I n1)]) (ml := [(104, .box [.I 0, .I 0, .str (ByteArray.mk #[]), .nil, .nil])]) R R R R) (LH.seq (LH.block ?_))))
   obtain ⟨x3, hx3, h⟩ := bindS h
   refine LH.seqT [(3, .sptr [.I p1.ID, .I p1.Version]), (4, .ptr 104 0), (7, .sptr [.I x3.ID, .lst 5 (List.map GItem.lv x3.Versions), .lst 1 (List.map LV.bool x3.Approved), .lst 3 (List.map GUse.lv x3.Uses), .bool x3.Withdrawn]), (9, .lst 5 (List.map Gq2.lv p0.Records)), (10, .I (p0.Records.length : Int)), (11, .I n1)] [(104, .box [.I 0, .I 0, .str (ByteArray.mk #[]), .nil, .nil])] R (sN (oIx (f := Gq2.lv) te45 tk58 ts58 R R Gq2.ok hx3 R (sN (oLdA R tk58 ta58 ts58 R R (sN (oAl (id := 107) R tz58 R R (s_ (oSt R R R tk58 ts58 R R R (s0 ((Wk.trans (Wk.eq (el := [(3, .sptr [.I p1.ID, .I p1.Version]), (4, .ptr 104 0), (7, .ptr 107 0), (9, .lst 5 (List.map Gq2.lv p0.Records)), (10, .I (p0.Records.length : Int)), (11, .I n1)]) (ml := [(104, .box [.I 0, .I 0, .str (ByteArray.mk #[]), .nil, .nil]), (107, .box [.I x3.ID, .lst 5 (List.map GItem.lv x3.Versions), .lst 1 (List.map LV.bool x3.Approved), .lst 3 (List.map GUse.lv x3.Uses), .bool x3.Withdrawn])]) R R R R) (Wk.trans (Wk.frzB 107 [.I x3.ID, .lst 5 (List.map GItem.lv x3.Versions), .lst 1 (List.map LV.bool x3.Approved), .lst 3 (List.map GUse.lv x3.Uses), .bool x3.Withdrawn] R R R (prN R)) (Wk.eq R R R R))))))))))))) (LH.seq (LH.seqT [(3, .sptr [.I p1.ID, .I p1.Version]), (4, .ptr 104 0), (7, .sptr [.I x3.ID, .lst 5 (List.map GItem.lv x3.Versions), .lst 1 (List.map LV.bool x3.Approved), .lst 3 (List.map GUse.lv x3.Uses), .bool x3.Withdrawn]), (9, .lst 5 (List.map Gq2.lv p0.Records)), (10, .I (p0.Records.length : Int)), (11, .I n1), (19, .bool (x3.ID != p1.ID))] [(104, .box [.I 0, .I 0, .str (ByteArray.mk #[]), .nil, .nil])] R (sN (oFaS tf58_0 tk3 ts3 R R R (sN (oLd R tk3 ta3 (sN (oFaS tf36_0 tk3 ts3 R R R (sN (oLd R tk3 ta3 (sN (oNe R R zS)))))))))) (LH.cond (t := (x3.ID != p1.ID)) R (fun hc4 => ?_) (fun hc4 => ?_))))
   ·replace h := iteT h hc4
    refine LH.exit (thenX (blockH (thenN (LH.loneT [(3, .sptr [.I p1.ID, .I p1.Version]), (4, .ptr 104 0), (9, .lst 5 (List.map Gq2.lv p0.Records)), (10, .I (p0.Records.length : Int)), (11, .I (i64 (n1 + 1)))] [(104, .box [.I 0, .I 0, .str (ByteArray.mk #[]), .nil, .nil])] R (sN (oAdd R R (sMi R zS))) ?_))))
    exact roundI ⟨(i64 (n1 + 1)), hrec1 ▸ h, R, R⟩ (Wk.eq R R R R)
   replace h := iteF h hc4
   refine LH.skip (thenN (LH.wk (Wk.eq (el := [(3, .sptr [.I p1.ID, .I p1.Version]), (4, .ptr 104 0), (7, .sptr [.I x3.ID, .lst 5 (List.map GItem.lv x3.Versions), .lst 1 (List.map LV.bool x3.Approved), .lst 3 (List.map GUse.lv x3.Uses), .bool x3.Withdrawn])]) (ml := [(104, .box [.I 0, .I 0, .str (ByteArray.mk #[]), .nil, .nil])]) R R R R) (LH.seq (LH.seqT [(3, .sptr [.I p1.ID, .I p1.Version]), (4, .ptr 104 0), (7, .sptr [.I x3.ID, .lst 5 (List.map GItem.lv x3.Versions), .lst 1 (List.map LV.bool x3.Approved), .lst 3 (List.map GUse.lv x3.Uses), .bool x3.Withdrawn]), (30, .bool ((decide (p1.Version < 1)) || (decide (p1.Version > (x3.Versions.length : Int)))))] [(104, .box [.I 0, .I 0, .str (ByteArray.mk #[]), .nil, .nil])] R ?_ ?_))))
   ·refine sN (oFaS tf36_1 tk3 ts3 R R R (sN (oLd R tk3 ta3 (sN (oLt R R (sMb R ?_))))))
    by_cases hb6 : (decide (p1.Version < 1)) = true
    ·exact sF R R hb6 (sF R R hb6 (sF R R hb6 (sF R R hb6 (sF R R hb6 (sF R R hb6 (sN (oPkT (cB hb6) (v := (.bool _)) R (s0 (Wk.to (eC R (eC R (eC R (eC (cB (orT hb6)) eN)))) ⟨R, trivial⟩ R (prK R))))))))))
    ·replace hb6 := bF hb6
     exact sT R (cB hb6) (oFaS tf36_1 tk3 ts3 R R R (sT R (cB hb6) (oLd R tk3 ta3 (sT R (cB hb6) (oFaS tf58_1 tk54 ts54 R R R (sT R (cB hb6) (oLd R tk54 ta54 (sT R (cB hb6) (oLnL (f := GItem.lv) te54 R (sT R (cB hb6) (oGt R R (sN (oPkF (cB hb6) (v := (.bool _)) R (s0 (Wk.to (eC R (eC R (eC R (eC (cB (orF hb6)) eN)))) ⟨R, trivial⟩ R (prK R))))))))))))))))
   refine LH.cond (t := ((decide (p1.Version < 1)) || (decide (p1.Version > (x3.Versions.length : Int))))) R (fun hc7 => ?_) (fun hc7 => ?_)
   ·replace h := iteT h hc7
    refine LH.exit (thenX (blockX R (thenX (roundX (blockH (thenN (LH.seqT [(4, .sptr [.I 0, .I 0, .str (ByteArray.mk #[]), .nil, .nil]), (5, .bool false)] [] R (sN (oBd (vs := []) tu34 tz34 R lf0 (s_ (oSt R R R tk34 ts34 R R R (sAb R (s0 ((Wk.trans (Wk.eq (el := [(4, .ptr 104 0), (5, .bool false)]) (ml := [(104, .box [.I 0, .I 0, .str (ByteArray.mk #[]), .nil, .nil])]) R R R R) (Wk.trans (Wk.frzB 104 [.I 0, .I 0, .str (ByteArray.mk #[]), .nil, .nil] R R R (prN R)) (Wk.eq R R R R)))))))))) (LH.ret ?_))))))))
    obtain rfl := oI h
    exact retE (aT Try.results25) (lrSA R tk34 ta34 ts34 R R (lrT R (lr0 ⟨memN mN, R, prK R, (Sub.tup (sbS (Sub.agg (sbR (sbR (sbR (sbL (sbL sbN)))))) (sbR sbN)))⟩)))
   replace h := iteF h hc7
   refine LH.skip (thenN ?_)
   obtain ⟨x8, hx8, h⟩ := bindS h
   obtain ⟨r9, hr9, h⟩ := bindS h
   refine LH.seqT [(4, .sptr [.I r9.ID, .I r9.Version, .str r9.Stem, .lst 6 (List.map GPart.lv r9.Parts), .L r9.Enemies]), (5, .bool true)] [] R (sN (oFaS tf58_1 tk54 ts54 R R R (sN (oLd R tk54 ta54 (sN (oFaS tf36_1 tk3 ts3 R R R (sN (oLd R tk3 ta3 (sN (oSub R R (sN (oIx (f := GItem.lv) te54 tk34 ts34 R R GItem.ok hx8 R (sN (oLdA R tk34 ta34 ts34 R R (sN (oCP (args := [.agg [.I x8.ID, .I x8.Version, .str x8.Stem, .lst 6 (List.map GPart.lv x8.Parts), .L x8.Enemies]]) R isF34 R (sbR sbN) (bank_cloneItem_ok hr9) R (s_ (oSt R R R tk34 ts34 R R R (sAb R (s0 ((Wk.trans (Wk.eq (el := [(4, .ptr 104 0), (5, .bool true)]) (ml := [(104, .box [.I r9.ID, .I r9.Version, .str r9.Stem, .lst 6 (List.map GPart.lv r9.Parts), .L r9.Enemies])]) R R R R) (Wk.trans (Wk.frzB 104 [.I r9.ID, .I r9.Version, .str r9.Stem, .lst 6 (List.map GPart.lv r9.Parts), .L r9.Enemies] R R R (prN R)) (Wk.eq R R R R)))))))))))))))))))))))) (LH.ret (blockR (thenR (roundR (blockR (thenR ?_))))))
   obtain rfl := oI h
   exact retE (aT Try.results25) (lrSA R tk34 ta34 ts34 R R (lrT R (lr0 ⟨memN mN, R, prK R, (Sub.tup (sbR (sbR sbN)))⟩)))
  replace h := iteF h hc2
  refine LH.exit (thenX (roundX (blockH (thenN (LH.seqT [(4, .sptr [.I 0, .I 0, .str (ByteArray.mk #[]), .nil, .nil]), (5, .bool false)] [] R (sN (oBd (vs := []) tu34 tz34 R lf0 (s_ (oSt R R R tk34 ts34 R R R (sAb R (s0 ((Wk.trans (Wk.eq (el := [(4, .ptr 104 0), (5, .bool false)]) (ml := [(104, .box [.I 0, .I 0, .str (ByteArray.mk #[]), .nil, .nil])]) R R R R) (Wk.trans (Wk.frzB 104 [.I 0, .I 0, .str (ByteArray.mk #[]), .nil, .nil] R R R (prN R)) (Wk.eq R R R R)))))))))) (LH.ret ?_))))))
  obtain rfl := oI h
  exact retE (aT Try.results25) (lrSA R tk34 ta34 ts34 R R (lrT R (lr0 ⟨memN mN, R, prK R, (Sub.tup (sbS (Sub.agg (sbR (sbR (sbR (sbL (sbL sbN)))))) (sbR sbN)))⟩)))

set_option maxHeartbeats 4000000 in
theorem q69q {F : Nat} {p0 : List Int} {p1 : Int} {p2 : Int} {p3 : Int} {r : Bool} (h : q54q F p0 p1 p2 p3 = some r) : LCall Try.prog 6 [.L p0, .I p1, .I p2, .I p3] (Mem.of []) (.bool r) (Mem.of []) := by
  unfold q54q at h
  refine bodyT Try.func6 R (nT Try.ntmps6 R) (LH.wk (Wk.eq (el := [(0, .L p0), (1, .I p1), (2, .I p2), (3, .I p3)]) (ml := []) R R R R) (LH.seqT [(0, .L p0), (1, .I p1), (2, .I p2), (3, .I p3)] [] R (sAb R zS) ?_))
  obtain ⟨r1, hr1, h⟩ := bindS h
  obtain ⟨r2, hr2, h⟩ := bindS h
  refine LH.seqT [(1, .I p1), (2, .I p2), (3, .I p3), (9, .lst 12 (List.map Gq0.lv r2.1))] [] R (sMl R (sN (oCM (args := [.L p0]) (ml := []) (ml' := [(7, .box [.L r1.L, .I r1.At])]) R isF8 R (sbR sbN) (q81q hr1) mN (newF R newN) R (sN (oCM (args := [.ptr 7 0, .I 14, .I 8]) (ml := [(7, .box [.L r1.L, .I r1.At])]) (ml' := [(7, .box [.L r2.2.L, .I r2.2.At])]) R isF9 R (sbR (sbR (sbR sbN))) (Gq11 hr2) (mC R mN) (newI R newN) R (sAl R zS)))))) ?_
  obtain ⟨r3, hr3, h⟩ := bindS h
  refine LH.seqT [(1, .I p1), (2, .I p2), (3, .I p3), (10, .sptr [.lst 5 (List.map Gq2.lv r3.1.Records)]), (12, .I r3.2.2)] [] R (sMl R (sN (oCP (args := [.lst 12 (List.map Gq0.lv r2.1), .I 1000000]) R isF18 R (sbR (sbR sbN)) (bank_Fold_ok hr3) R (sMt R (sN (oEx R R (sN (oEx R R (sN (oEx R R (sN (oAl (id := 110) R tz47 R R (s_ (oSt R R R tk47 ts47 R R R (sAl R (sAi R (s0 ((Wk.trans (Wk.eq (el := [(1, .I p1), (2, .I p2), (3, .I p3), (10, .ptr 110 0), (12, .I r3.2.2)]) (ml := [(110, .box [.lst 5 (List.map Gq2.lv r3.1.Records)])]) R R R R) (Wk.trans (Wk.frzB 110 [.lst 5 (List.map Gq2.lv r3.1.Records)] R R R (prN R)) (Wk.eq R R R R))))))))))))))))))))) ?_
  obtain ⟨r4, hr4, h⟩ := bindS h
  refine LH.seqT [(1, .I p1), (2, .I p2), (3, .I r4), (10, .sptr [.lst 5 (List.map Gq2.lv r3.1.Records)]), (12, .I r3.2.2)] [] R (sMi R (sN (oCP (args := [.I p3, .I 4]) R isF21 R (sbR (sbR sbN)) (q61q hr4) R (sAi R zS)))) ?_
  obtain ⟨r5, hr5, h⟩ := bindS h
  obtain ⟨r6, hr6, h⟩ := bindS h
  obtain ⟨r7, hr7, h⟩ := bindS h
  refine LH.seqJM mixed [] [0, 0, 0, 0, 0, 0, 0, 0] [(3, .I r4), (10, .sptr [.lst 5 (List.map Gq2.lv r3.1.Records)]), (12, .I r3.2.2), (13, .lst 2 (List.map GRef.lv r7))] [] R R (by kernel_rfl) (mN0 (oLdA R tk47 ta47 ts47 R R ⟨R, mMi R (mN0 (oCP (args := [.I p1, .I 40]) R isF21 R (sbR (sbR sbN)) (q61q hr5) R ⟨R, mMi R (mN0 (oCP (args := [.I p2, .I 20]) R isF21 R (sbR (sbR sbN)) (q61q hr6) R ⟨R, mMi R (mN0 (oCP (args := [.agg [.lst 5 (List.map Gq2.lv r3.1.Records)], .I r5, .I r6, .I r4]) R isF24 R (sbR (sbR (sbR (sbR sbN)))) (bank_Eligible_ok hr7) R ⟨R, mAl R zM⟩))⟩))⟩))⟩)) (LH.seq (LH.seqT [(3, .I r4), (10, .sptr [.lst 5 (List.map Gq2.lv r3.1.Records)]), (12, .I r3.2.2), (13, .lst 2 (List.map GRef.lv r7)), (14, .I 0)] [] R (sAi R zS) (LH.block (LH.loop (fun n e m => ∃ (n8 : Int), q11q F r3 r4 r7 n n8 = some r ∧ e = Env.of [(3, .I r4), (10, .sptr [.lst 5 (List.map Gq2.lv r3.1.Records)]), (12, .I r3.2.2), (13, .lst 2 (List.map GRef.lv r7)), (14, .I n8)] ∧ m = Mem.of []) F ⟨0, h, R, R⟩ ?_))))
  clear h
  rintro n e m ⟨n8, h, rfl, rfl⟩
  rcases n with _ | n
  · cases (show Option.none = some _ from h)
  obtain ⟨rec1, hrec1⟩ : ∃ f, f = q11q F r3 r4 r7 n := ⟨_, rfl⟩
  replace h : q25q F r3 r4 r7 rec1 n8 = some r := hrec1 ▸ h
  unfold q25q at h
  refine LH.seq (LH.seqT [(3, .I r4), (10, .sptr [.lst 5 (List.map Gq2.lv r3.1.Records)]), (12, .I r3.2.2), (13, .lst 2 (List.map GRef.lv r7)), (14, .I n8), (41, .bool (decide (n8 < (r7.length : Int))))] [] R (sMi R (sMl R (sN (oLnL (f := GRef.lv) te63 R (sN (oLt R R zS)))))) (LH.cond (t := (decide (n8 < (r7.length : Int)))) R (fun hc9 => ?_) (fun hc9 => ?_)))
  ·replace h := iteT h hc9
   refine LH.skip (thenN (LH.wk (Wk.eq (el := [(3, .I r4), (10, .sptr [.lst 5 (List.map Gq2.lv r3.1.Records)]), (12, .I r3.2.2), (13, .lst 2 (List.map GRef.lv r7)), (14, .I n8)]) (ml := []) R R R R) (LH.seq (LH.block ?_))))
   obtain ⟨x10, hx10, h⟩ := bindS h
   obtain ⟨r11, hr11, h⟩ := bindS h
   refine LH.seqJM mixed [] [0, 0, 0, 0, 0, 0, 0, 0, 0, 0, 2, 100115, 0] [(3, .I r4), (10, .sptr [.lst 5 (List.map Gq2.lv r3.1.Records)]), (12, .I r3.2.2), (13, .lst 2 (List.map GRef.lv r7)), (14, .I n8), (15, .sptr [.I r11.1.ID, .lst 5 (List.map GItem.lv r11.1.Versions), .lst 1 (List.map LV.bool r11.1.Approved), .lst 3 (List.map GUse.lv r11.1.Uses), .bool r11.1.Withdrawn]), (16, .bool r11.2)] [] R R (by kernel_rfl) (mN0 (oLdA R tk47 ta47 ts47 R R ⟨R, mMl R (mMi R (mN0 (oIx (f := GRef.lv) te63 tk36 ts36 R R GRef.ok hx10 R ⟨R, mN0 (oFaS tf36_0 tk3 ts3 R R R ⟨R, mN0 (oLd R tk3 ta3 ⟨R, mN0 (oCP (args := [.agg [.lst 5 (List.map Gq2.lv r3.1.Records)], .I x10.ID]) R isF22 R (sbR (sbR sbN)) (bank_Find_ok hr11) R ⟨R, mMt R (mN0 (oEx R R ⟨R, mN0 (oEx R R ⟨R, mN2 (oAl (id := 115) R tz58 R R (mS R R R (fun _ b _ d => oSt R R R tk58 ts58 b R R d) (mAb R (m0 ((Wk.trans (Wk.eq (el := [(3, .I r4), (10, .sptr [.lst 5 (List.map Gq2.lv r3.1.Records)]), (12, .I r3.2.2), (13, .lst 2 (List.map GRef.lv r7)), (14, .I n8), (15, .ptr 115 0), (16, .bool r11.2)]) (ml := [(115, .box [.I r11.1.ID, .lst 5 (List.map GItem.lv r11.1.Versions), .lst 1 (List.map LV.bool r11.1.Approved), .lst 3 (List.map GUse.lv r11.1.Uses), .bool r11.1.Withdrawn])]) R R R R) (Wk.trans (Wk.frzB 115 [.I r11.1.ID, .lst 5 (List.map GItem.lv r11.1.Versions), .lst 1 (List.map LV.bool r11.1.Approved), .lst 3 (List.map GUse.lv r11.1.Uses), .bool r11.1.Withdrawn] R R R (prN R)) (Wk.eq R R R R))))))))⟩)⟩))⟩)⟩)⟩)⟩)))⟩)) (LH.seq ?_)
   obtain ⟨w13, hv, h⟩ := bindS h
   refine LH.seqJM mixed [] [0, 0, 0, 0, 0, 0, 0, 0, 0, 0, 0, 0, 0, 0, 0, 0, 0, 0, 0, 0, 0, 0, 0, 0, 0, 0, 0, 0, 0, 0, 0, 0, 0, 0, 0, 0, 0, 0, 0, 0, 0, 0, 0, 0, 0] [(3, .I r4), (10, .sptr [.lst 5 (List.map Gq2.lv r3.1.Records)]), (12, .I r3.2.2), (13, .lst 2 (List.map GRef.lv r7)), (14, .I n8), (15, .sptr [.I r11.1.ID, .lst 5 (List.map GItem.lv r11.1.Versions), .lst 1 (List.map LV.bool r11.1.Approved), .lst 3 (List.map GUse.lv r11.1.Uses), .bool r11.1.Withdrawn]), (98, .bool w13)] [] R R (by kernel_rfl) ?_ ?_
   ·refine mMb R (mN0 (oNot R ⟨R, mMb R ?_⟩))
    by_cases hb14 : (!r11.2) = true
    ·replace hv := iteT hv hb14
     refine mF R R hb14 (mF R R hb14 (mN0 (oPkT (cB hb14) (v := (.bool _)) R ⟨R, mMb R (mF R R R (mF R R R (mF R R R (mF R R R (mF R R R (mN0 (oPkT R (v := (.bool _)) R ⟨R, mMb R (mF R R R (mF R R R (mF R R R (mF R R R (mF R R R (mF R R R (mN0 (oPkT R (v := (.bool _)) R ⟨R, mMb R (mF R R R (mF R R R (mF R R R (mF R R R (mF R R R (mF R R R (mF R R R (mF R R R (mF R R R (mN0 (oPkT R (v := (.bool _)) R ⟨R, mMb R (mF R R R (mF R R R (mF R R R (mF R R R (mF R R R (mF R R R (mF R R R (mF R R R (mF R R R (mF R R R (mF R R R (mN0 (oPkT R (v := (.bool _)) R ⟨R, ?_⟩)))))))))))))⟩)))))))))))⟩))))))))⟩)))))))⟩)))
     obtain rfl := oI hv
     exact zM
    ·replace hb14 := bF hb14
     replace hv := iteF hv hb14
     refine mT R (cB hb14) (mN0 (oFaS tf58_4 tk4 ts4 R R R ⟨R, mT R (cB hb14) (mN0 (oLd R tk4 ta4 ⟨R, mN0 (oPkF (cB hb14) (v := (.bool _)) R ⟨R, mMb R ?_⟩)⟩))⟩))
     by_cases hb15 : r11.1.Withdrawn = true
     ·replace hv := iteT hv hb15
      refine mF R R hb15 (mF R R hb15 (mF R R hb15 (mF R R hb15 (mF R R hb15 (mN0 (oPkT (cB hb15) (v := (.bool _)) R ⟨R, mMb R (mF R R R (mF R R R (mF R R R (mF R R R (mF R R R (mF R R R (mN0 (oPkT R (v := (.bool _)) R ⟨R, mMb R (mF R R R (mF R R R (mF R R R (mF R R R (mF R R R (mF R R R (mF R R R (mF R R R (mF R R R (mN0 (oPkT R (v := (.bool _)) R ⟨R, mMb R (mF R R R (mF R R R (mF R R R (mF R R R (mF R R R (mF R R R (mF R R R (mF R R R (mF R R R (mF R R R (mF R R R (mN0 (oPkT R (v := (.bool _)) R ⟨R, ?_⟩)))))))))))))⟩)))))))))))⟩))))))))⟩))))))
      obtain rfl := oI hv
      exact zM
     ·replace hb15 := bF hb15
      replace hv := iteF hv hb15
      refine mT R (cB hb15) (mN0 (oFaS tf58_3 tk56 ts56 R R R ⟨R, mT R (cB hb15) (mN0 (oLd R tk56 ta56 ⟨R, mT R (cB hb15) (mN0 (oLnL (f := GUse.lv) te56 R ⟨R, mT R (cB hb15) (mMi R (mT R (cB hb15) (mN0 (oGt R R ⟨R, mN0 (oPkF (cB hb15) (v := (.bool _)) R ⟨R, mMb R ?_⟩)⟩))))⟩))⟩))⟩))
      by_cases hb16 : (decide ((r11.1.Uses.length : Int) > r4)) = true
      ·replace hv := iteT hv hb16
       refine mF R R hb16 (mF R R hb16 (mF R R hb16 (mF R R hb16 (mF R R hb16 (mF R R hb16 (mN0 (oPkT (cB hb16) (v := (.bool _)) R ⟨R, mMb R (mF R R R (mF R R R (mF R R R (mF R R R (mF R R R (mF R R R (mF R R R (mF R R R (mF R R R (mN0 (oPkT R (v := (.bool _)) R ⟨R, mMb R (mF R R R (mF R R R (mF R R R (mF R R R (mF R R R (mF R R R (mF R R R (mF R R R (mF R R R (mF R R R (mF R R R (mN0 (oPkT R (v := (.bool _)) R ⟨R, ?_⟩)))))))))))))⟩)))))))))))⟩)))))))
       obtain rfl := oI hv
       exact zM
      ·replace hb16 := bF hb16
       replace hv := iteF hv hb16
       refine mT R (cB hb16) (mMl R (mT R (cB hb16) (mMi R ?_)))
       obtain ⟨x17, hx17, hv⟩ := bindS hv
       refine mT R (cB hb16) (mN0 (oIx (f := GRef.lv) te63 tk36 ts36 R R GRef.ok hx17 R ⟨R, mT R (cB hb16) (mN0 (oFaS tf36_1 tk3 ts3 R R R ⟨R, mT R (cB hb16) (mN0 (oLd R tk3 ta3 ⟨R, mT R (cB hb16) (mN0 (oLt R R ⟨R, mN0 (oPkF (cB hb16) (v := (.bool _)) R ⟨R, mMb R ?_⟩)⟩))⟩))⟩))⟩))
       by_cases hb18 : (decide (x17.Version < 1)) = true
       ·replace hv := iteT hv hb18
        refine mF R R hb18 (mF R R hb18 (mF R R hb18 (mF R R hb18 (mF R R hb18 (mF R R hb18 (mF R R hb18 (mF R R hb18 (mF R R hb18 (mN0 (oPkT (cB hb18) (v := (.bool _)) R ⟨R, mMb R (mF R R R (mF R R R (mF R R R (mF R R R (mF R R R (mF R R R (mF R R R (mF R R R (mF R R R (mF R R R (mF R R R (mN0 (oPkT R (v := (.bool _)) R ⟨R, ?_⟩)))))))))))))⟩))))))))))
        obtain rfl := oI hv
        exact zM
       ·replace hb18 := bF hb18
        replace hv := iteF hv hb18
        refine mT R (cB hb18) (mMl R (mT R (cB hb18) (mMi R ?_)))
        obtain ⟨x19, hx19, hv⟩ := bindS hv
        refine mT R (cB hb18) (mN0 (oIx (f := GRef.lv) te63 tk36 ts36 R R GRef.ok hx19 R ⟨R, mT R (cB hb18) (mN0 (oFaS tf36_1 tk3 ts3 R R R ⟨R, mT R (cB hb18) (mN0 (oLd R tk3 ta3 ⟨R, mT R (cB hb18) (mN0 (oFaS tf58_2 tk55 ts55 R R R ⟨R, mT R (cB hb18) (mN0 (oLd R tk55 ta55 ⟨R, mT R (cB hb18) (mN0 (oLnL (f := LV.bool) te55 R ⟨R, mT R (cB hb18) (mN0 (oGt R R ⟨R, mN0 (oPkF (cB hb18) (v := (.bool _)) R ⟨R, mMb R ?_⟩)⟩))⟩))⟩))⟩))⟩))⟩))⟩))
        by_cases hb20 : (decide (x19.Version > (r11.1.Approved.length : Int))) = true
        ·replace hv := iteT hv hb20
         refine mF R R hb20 (mF R R hb20 (mF R R hb20 (mF R R hb20 (mF R R hb20 (mF R R hb20 (mF R R hb20 (mF R R hb20 (mF R R hb20 (mF R R hb20 (mF R R hb20 (mN0 (oPkT (cB hb20) (v := (.bool _)) R ⟨R, ?_⟩))))))))))))
         obtain rfl := oI hv
         exact zM
        ·replace hb20 := bF hb20
         replace hv := iteF hv hb20
         refine mT R (cB hb20) (mN0 (oFaS tf58_2 tk55 ts55 R R R ⟨R, mT R (cB hb20) (mN0 (oLd R tk55 ta55 ⟨R, mT R (cB hb20) (mMl R (mT R (cB hb20) (mMi R ?_)))⟩))⟩))
         obtain ⟨x21, hx21, hv⟩ := bindS hv
         refine mT R (cB hb20) (mN0 (oIx (f := GRef.lv) te63 tk36 ts36 R R GRef.ok hx21 R ⟨R, mT R (cB hb20) (mN0 (oFaS tf36_1 tk3 ts3 R R R ⟨R, mT R (cB hb20) (mN0 (oLd R tk3 ta3 ⟨R, mT R (cB hb20) (mN0 (oSub R R ⟨R, ?_⟩))⟩))⟩))⟩))
         obtain ⟨x22, hx22, hv⟩ := bindS hv
         refine mT R (cB hb20) (mN0 (oIx (f := LV.bool) te55 tk4 ts4 R R okB hx22 R ⟨R, mT R (cB hb20) (mN0 (oLd R tk4 ta4 ⟨R, mT R (cB hb20) (mN0 (oNot R ⟨R, mN0 (oPkF (cB hb20) (v := (.bool _)) R ⟨R, ?_⟩)⟩))⟩))⟩))
         obtain rfl := oI hv
         exact zM
   clear hv
   refine LH.cond (t := w13) R (fun hc23 => ?_) (fun hc23 => ?_)
   ·replace h := iteT h hc23
    refine LH.seqT [(8, .bool false)] [] R (sAb R zS) (LH.ret (thenR (blockR (thenR (roundR (blockR (thenR ?_)))))))
    obtain rfl := oI h
    exact retE (aT Try.results6) (lrT R (lr0 ⟨memN mN, R, prK R, Sub.rfl⟩))
   replace h := iteF h hc23
   refine LH.skip (thenN (LH.wk (Wk.eq (el := [(3, .I r4), (10, .sptr [.lst 5 (List.map Gq2.lv r3.1.Records)]), (12, .I r3.2.2), (13, .lst 2 (List.map GRef.lv r7)), (14, .I n8), (15, .sptr [.I r11.1.ID, .lst 5 (List.map GItem.lv r11.1.Versions), .lst 1 (List.map LV.bool r11.1.Approved), .lst 3 (List.map GUse.lv r11.1.Uses), .bool r11.1.Withdrawn])]) (ml := []) R R R R) (LH.seq ?_)))
   obtain ⟨x24, hx24, h⟩ := bindS h
   refine LH.seqT [(3, .I r4), (10, .sptr [.lst 5 (List.map Gq2.lv r3.1.Records)]), (12, .I r3.2.2), (13, .lst 2 (List.map GRef.lv r7)), (14, .I n8), (15, .sptr [.I r11.1.ID, .lst 5 (List.map GItem.lv r11.1.Versions), .lst 1 (List.map LV.bool r11.1.Approved), .lst 3 (List.map GUse.lv r11.1.Uses), .bool r11.1.Withdrawn]), (17, .I x24.Version)] [] R (sMl R (sMi R (sN (oIx (f := GRef.lv) te63 tk36 ts36 R R GRef.ok hx24 R (sN (oFaS tf36_1 tk3 ts3 R R R (sN (oLd R tk3 ta3 (sAi R zS))))))))) (LH.block (LH.loop (fun n e m => ∃ (n25 : Int), q18q rec1 F r3 r7 n8 r11 n n25 = some r ∧ e = Env.of [(3, .I r4), (10, .sptr [.lst 5 (List.map Gq2.lv r3.1.Records)]), (12, .I r3.2.2), (13, .lst 2 (List.map GRef.lv r7)), (14, .I n8), (15, .sptr [.I r11.1.ID, .lst 5 (List.map GItem.lv r11.1.Versions), .lst 1 (List.map LV.bool r11.1.Approved), .lst 3 (List.map GUse.lv r11.1.Uses), .bool r11.1.Withdrawn]), (17, .I n25)] ∧ m = Mem.of []) F ⟨x24.Version, h, R, R⟩ ?_))
   clear h
   rintro n e m ⟨n25, h, rfl, rfl⟩
   rcases n with _ | n
   · cases (show Option.none = some _ from h)
   obtain ⟨rec2, hrec2⟩ : ∃ f, f = q18q rec1 F r3 r7 n8 r11 n := ⟨_, rfl⟩
   replace h : q26q rec1 F r3 r7 n8 r11 rec2 n25 = some r := hrec2 ▸ h
   unfold q26q at h
   refine LH.seq (LH.seqT [(3, .I r4), (10, .sptr [.lst 5 (List.map Gq2.lv r3.1.Records)]), (12, .I r3.2.2), (13, .lst 2 (List.map GRef.lv r7)), (14, .I n8), (15, .sptr [.I r11.1.ID, .lst 5 (List.map GItem.lv r11.1.Versions), .lst 1 (List.map LV.bool r11.1.Approved), .lst 3 (List.map GUse.lv r11.1.Uses), .bool r11.1.Withdrawn]), (17, .I n25), (108, .bool (decide (n25 < (r11.1.Approved.length : Int))))] [] R (sMi R (sN (oFaS tf58_2 tk55 ts55 R R R (sN (oLd R tk55 ta55 (sN (oLnL (f := LV.bool) te55 R (sN (oLt R R zS))))))))) (LH.cond (t := (decide (n25 < (r11.1.Approved.length : Int)))) R (fun hc26 => ?_) (fun hc26 => ?_)))
   ·replace h := iteT h hc26
    refine LH.skip (thenN (LH.wk (Wk.eq (el := [(3, .I r4), (10, .sptr [.lst 5 (List.map Gq2.lv r3.1.Records)]), (12, .I r3.2.2), (13, .lst 2 (List.map GRef.lv r7)), (14, .I n8), (15, .sptr [.I r11.1.ID, .lst 5 (List.map GItem.lv r11.1.Versions), .lst 1 (List.map LV.bool r11.1.Approved), .lst 3 (List.map GUse.lv r11.1.Uses), .bool r11.1.Withdrawn]), (17, .I n25)]) (ml := []) R R R R) (LH.seq (LH.block ?_))))
    obtain ⟨x27, hx27, h⟩ := bindS h
    refine LH.seqT [(3, .I r4), (10, .sptr [.lst 5 (List.map Gq2.lv r3.1.Records)]), (12, .I r3.2.2), (13, .lst 2 (List.map GRef.lv r7)), (14, .I n8), (15, .sptr [.I r11.1.ID, .lst 5 (List.map GItem.lv r11.1.Versions), .lst 1 (List.map LV.bool r11.1.Approved), .lst 3 (List.map GUse.lv r11.1.Uses), .bool r11.1.Withdrawn]), (17, .I n25), (115, .bool x27)] [] R (sN (oFaS tf58_2 tk55 ts55 R R R (sN (oLd R tk55 ta55 (sMi R (sN (oIx (f := LV.bool) te55 tk4 ts4 R R okB hx27 R (sN (oLd R tk4 ta4 zS))))))))) (LH.cond (t := x27) R (fun hc28 => ?_) (fun hc28 => ?_))
    ·replace h := iteT h hc28
     refine LH.seqT [(8, .bool false)] [] R (sAb R zS) (LH.ret (blockR (thenR (roundR (blockR (thenR (blockR (thenR (roundR (blockR (thenR ?_)))))))))))
     obtain rfl := oI h
     exact retE (aT Try.results6) (lrT R (lr0 ⟨memN mN, R, prK R, Sub.rfl⟩))
    replace h := iteF h hc28
    refine LH.skip (blockN (thenN (LH.loneT [(3, .I r4), (10, .sptr [.lst 5 (List.map Gq2.lv r3.1.Records)]), (12, .I r3.2.2), (13, .lst 2 (List.map GRef.lv r7)), (14, .I n8), (15, .sptr [.I r11.1.ID, .lst 5 (List.map GItem.lv r11.1.Versions), .lst 1 (List.map LV.bool r11.1.Approved), .lst 3 (List.map GUse.lv r11.1.Uses), .bool r11.1.Withdrawn]), (17, .I (i64 (n25 + 1)))] [] R (sMi R (sN (oAdd R R (sAi R zS)))) ?_)))
    exact roundI ⟨(i64 (n25 + 1)), hrec2 ▸ h, R, R⟩ (Wk.eq R R R R)
   replace h := iteF h hc26
   refine LH.exit (thenX (roundX (blockH (thenN ?_))))
   obtain ⟨x29, hx29, h⟩ := bindS h
   obtain ⟨r30, hr30, h⟩ := bindS h
   refine LH.seqJM mixed [] [0, 0, 0, 0, 0, 0, 0, 0, 0, 2, 100118, 0] [(3, .I r4), (10, .sptr [.lst 5 (List.map Gq2.lv r3.1.Records)]), (12, .I r3.2.2), (13, .lst 2 (List.map GRef.lv r7)), (14, .I n8), (19, .bool r30.2)] [] R R (by kernel_rfl) (mN0 (oLdA R tk47 ta47 ts47 R R ⟨R, mMl R (mMi R (mN0 (oIx (f := GRef.lv) te63 tk36 ts36 R R GRef.ok hx29 R ⟨R, mN0 (oLdA R tk36 ta36 ts36 R R ⟨R, mN0 (oCP (args := [.agg [.lst 5 (List.map Gq2.lv r3.1.Records)], .agg [.I x29.ID, .I x29.Version]]) R isF25 R (sbR (sbR sbN)) (bank_Version_ok hr30) R ⟨R, mMt R (mN0 (oEx R R ⟨R, mN0 (oEx R R ⟨R, mN2 (oAl (id := 118) R tz34 R R (mS R R R (fun _ b _ d => oSt R R R tk34 ts34 b R R d) (mAb R zM)))⟩)⟩))⟩)⟩)⟩)))⟩)) (LH.seqT [(3, .I r4), (10, .sptr [.lst 5 (List.map Gq2.lv r3.1.Records)]), (12, .I r3.2.2), (13, .lst 2 (List.map GRef.lv r7)), (14, .I n8), (126, .bool (!r30.2))] [] R (sMb R (sN (oNot R zS))) (LH.cond (t := (!r30.2)) R (fun hc31 => ?_) (fun hc31 => ?_)))
   ·replace h := iteT h hc31
    refine LH.seqT [(8, .bool false)] [] R (sAb R zS) (LH.ret (blockR (thenR (roundR (blockR (thenR ?_))))))
    obtain rfl := oI h
    exact retE (aT Try.results6) (lrT R (lr0 ⟨memN mN, R, prK R, Sub.rfl⟩))
   replace h := iteF h hc31
   refine LH.skip (blockN (thenN (LH.loneT [(3, .I r4), (10, .sptr [.lst 5 (List.map Gq2.lv r3.1.Records)]), (12, .I r3.2.2), (13, .lst 2 (List.map GRef.lv r7)), (14, .I (i64 (n8 + 1)))] [] R (sMi R (sN (oAdd R R (sAi R zS)))) ?_)))
   exact roundI ⟨(i64 (n8 + 1)), hrec1 ▸ h, R, R⟩ (Wk.eq R R R R)
  replace h := iteF h hc9
  refine LH.exit (thenX (roundX (blockH (thenN ?_))))
  obtain ⟨w33, hv, h⟩ := bindS h
  refine LH.seqT [(8, .bool w33)] [] R ?_ ?_
  ·refine sMi R (sN (oEq R R (sMb R ?_)))
   by_cases hb34 : (r3.2.2 == 0) = true
   ·replace hv := iteT hv hb34
    obtain ⟨r35, hr35, hv⟩ := bindS hv
    refine sT R (cB hb34) (oCP (args := []) R isF16 R sbN (q75q hr35) R (sN (oPkT (cB hb34) (v := (.bool _)) R (sAb R ?_))))
    obtain rfl := oI hv
    exact zS
   ·replace hb34 := bF hb34
    replace hv := iteF hv hb34
    refine sF R R hb34 (sN (oPkF (cB hb34) (v := (.bool _)) R (sAb R ?_)))
    obtain rfl := oI hv
    exact zS
  clear hv
  refine LH.ret ?_
  obtain rfl := oI h
  exact retE (aT Try.results6) (lrT R (lr0 ⟨memN mN, R, prK R, Sub.rfl⟩))

end Go.Proofs.Ytmollikhdbaikaa
