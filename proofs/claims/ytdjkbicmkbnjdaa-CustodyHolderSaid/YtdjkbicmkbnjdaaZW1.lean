import Derived.Test.YtdjkbicmkbnjdaaZLb
import Derived.Test.YtdjkbicmkbnjdaaZRow
import Derived.Test.YtdjkbicmkbnjdaaZFacts
import Derived.Test.YtdjkbicmkbnjdaaZEqs
import Derived.Test.YtdjkbicmkbnjdaaZSort
import Derived.Test.YtdjkbicmkbnjdaaZSh
set_option linter.unusedVariables false
set_option linter.unusedSimpArgs false
set_option maxRecDepth 100000
namespace Go.Proofs.Ytdjkbicmkbnjdaa
open Go.L Go.Sh
theorem make_Cut_ok {p0 : Int} {p1 : Int} {r : Int} (h : make_Cut p0 p1 = some r) : LCall Try.prog 23 [.I p0, .I p1] (Mem.of []) (.I r) (Mem.of []) := by
  unfold make_Cut at h
  refine bodyT Try.func23 rfl (by rw [Try.ntmps23]; exact Nat.le_of_ble_eq_true rfl) ?_
  refine LH.wk (Wk.eq (el := [(0, .I p0), (1, .I p1)]) (ml := []) rfl rfl rfl rfl) ?_
  refine LH.seqT [(0, .I p0), (1, .I p1)] [] rfl ?_ ?_
  ·refine sAi rfl ?_
   exact s0 (Wk.eq rfl rfl rfl rfl)
  refine LH.seq ?_
  refine LH.seqT [(0, .I p0), (1, .I p1), (6, .bool (decide (p1 < 1)))] [] rfl ?_ ?_
  ·refine sMi rfl ?_
   refine sN (oLt rfl rfl ?_)
   exact s0 (Wk.eq rfl rfl rfl rfl)
  refine LH.cond (t := (decide (p1 < 1))) rfl (fun hc1 => ?_) (fun hc1 => ?_)
  ·replace h := iteT h hc1
   refine LH.seqT [(4, .I 0)] [] rfl ?_ ?_
   ·refine sAi rfl ?_
    exact s0 (Wk.eq rfl rfl rfl rfl)
   refine LH.ret ?_
   refine thenR ?_
   obtain rfl := Option.some.inj h
   exact retE (congrArg Array.toList Try.results23) (lrT rfl (lr0 ⟨memN mN, rfl, prK rfl, Sub.rfl⟩))
  replace h := iteF h hc1
  refine LH.skip ?_
  refine thenN ?_
  obtain ⟨v2, hv2, h⟩ := bindS h
  refine LH.seqT [(0, .I v2), (1, .I p1)] [] rfl ?_ ?_
  ·refine sMi rfl ?_
   refine sMi rfl ?_
   refine sN (oRem rfl rfl hv2 ?_)
   refine sAi rfl ?_
   exact s0 (Wk.eq rfl rfl rfl rfl)
  refine LH.seq ?_
  refine LH.seqT [(0, .I v2), (1, .I p1), (11, .bool (decide (v2 < 0)))] [] rfl ?_ ?_
  ·refine sMi rfl ?_
   refine sN (oLt rfl rfl ?_)
   exact s0 (Wk.eq rfl rfl rfl rfl)
  refine LH.cond (t := (decide (v2 < 0))) rfl (fun hc3 => ?_) (fun hc3 => ?_)
  ·replace h := iteT h hc3
   refine LH.loneT [(0, .I (i64 (v2 + p1)))] [] rfl ?_ ?_
   ·refine sMi rfl ?_
    refine sMi rfl ?_
    refine sN (oAdd rfl rfl ?_)
    refine sAi rfl ?_
    exact s0 (Wk.eq rfl rfl rfl rfl)
   refine thenN ?_
   refine LH.seqT [(4, .I (i64 (v2 + p1)))] [] rfl ?_ ?_
   ·refine sMi rfl ?_
    refine sAi rfl ?_
    exact s0 (Wk.eq rfl rfl rfl rfl)
   refine LH.ret ?_
   obtain rfl := Option.some.inj h
   exact retE (congrArg Array.toList Try.results23) (lrT rfl (lr0 ⟨memN mN, rfl, prK rfl, Sub.rfl⟩))
  replace h := iteF h hc3
  refine LH.skip ?_
  refine thenN ?_
  refine LH.seqT [(4, .I v2)] [] rfl ?_ ?_
  ·refine sMi rfl ?_
   refine sAi rfl ?_
   exact s0 (Wk.eq rfl rfl rfl rfl)
  refine LH.ret ?_
  obtain rfl := Option.some.inj h
  exact retE (congrArg Array.toList Try.results23) (lrT rfl (lr0 ⟨memN mN, rfl, prK rfl, Sub.rfl⟩))

theorem copies_Split_BagEvent_ok {F : Nat} {p0 : List GBagEvent} {p1 : (GBagEvent → Option GStamp)} {p2 : (GBagEvent → GBagEvent → Option Bool)} {r : List GStamp × List Int} {p1_f : Nat} {p1_c : List LV} (p1_i : IsF Try.prog p1_f) (p1_q : LV.pureL p1_c = true) (p1_k : ∀ (x0 : GBagEvent) (q : GStamp), p1 x0 = some q → LCall Try.prog p1_f ([.agg [.I x0.Stamp.Time, .I x0.Stamp.Source, .I x0.Stamp.Seq, .I x0.Kind, .I x0.Bag, .I x0.Seal, .I x0.From, .I x0.To, .L x0.Candidates]] ++ p1_c) (Mem.of []) (.agg [.I q.Time, .I q.Source, .I q.Seq]) (Mem.of [])) {p2_f : Nat} {p2_c : List LV} (p2_i : IsF Try.prog p2_f) (p2_q : LV.pureL p2_c = true) (p2_k : ∀ (x0 : GBagEvent) (x1 : GBagEvent) (q : Bool), p2 x0 x1 = some q → LCall Try.prog p2_f ([.agg [.I x0.Stamp.Time, .I x0.Stamp.Source, .I x0.Stamp.Seq, .I x0.Kind, .I x0.Bag, .I x0.Seal, .I x0.From, .I x0.To, .L x0.Candidates], .agg [.I x1.Stamp.Time, .I x1.Stamp.Source, .I x1.Stamp.Seq, .I x1.Kind, .I x1.Bag, .I x1.Seal, .I x1.From, .I x1.To, .L x1.Candidates]] ++ p2_c) (Mem.of []) (.bool q) (Mem.of [])) (h : copies_Split_BagEvent F p0 p1 p2 = some r) : LCall Try.prog 46 [.lst 9 (List.map GBagEvent.lv p0), .fn p1_f p1_c, .fn p2_f p2_c] (Mem.of []) (.tup [.lst 3 (List.map GStamp.lv r.1), .L r.2]) (Mem.of []) := by
  have p2_p : ∀ {l : List LV}, LV.pureL l = true → LV.pureL (l ++ p2_c) = true := pnC p2_q
  have p2_r : LV.refsL p2_c = [] := refsL_pure p2_q
  have p1_p : ∀ {l : List LV}, LV.pureL l = true → LV.pureL (l ++ p1_c) = true := pnC p1_q
  have p1_r : LV.refsL p1_c = [] := refsL_pure p1_q
  unfold copies_Split_BagEvent at h
  refine bodyT Try.func46 rfl (by rw [Try.ntmps46]; exact Nat.le_of_ble_eq_true rfl) ?_
  refine LH.wk (Wk.to (el := [(0, .lst 9 (List.map GBagEvent.lv p0)), (1, .fn p1_f p1_c), (2, .fn p2_f p2_c)]) (ml := []) (eQ ⟨rfl, rfl, rfl, trivial⟩) mN (by simp [keptRefs, LV.refs, LV.refsL, LV.cells, lev, Env.args, Env.of, Env.put, Env.drop, p1_r, p2_r]) (prK rfl)) ?_
  refine LH.seqT [(0, .lst 9 (List.map GBagEvent.lv p0)), (1, .fn p1_f p1_c), (2, .fn p2_f p2_c)] [] rfl ?_ ?_
  ·refine sAn rfl ?_
   refine sAn rfl ?_
   exact s0 (Wk.to (eQ ⟨rfl, rfl, rfl, trivial⟩) mN (by simp [keptRefs, LV.refs, LV.refsL, LV.cells, lev, Env.args, Env.of, Env.put, Env.drop, p1_r, p2_r]) (prK rfl))
  obtain ⟨v1, hv1, h⟩ := bindS h
  refine LH.seqT [(0, .lst 9 (List.map GBagEvent.lv p0)), (1, .fn p1_f p1_c), (2, .fn p2_f p2_c), (8, .arr 117 (List.length v1))] [(117, .arr 32 3 (List.map GStamp.lv v1))] rfl ?_ ?_
  ·refine sMl rfl ?_
   refine sN (oLnL (f := GBagEvent.lv) te25 rfl ?_)
   refine sN (oMk (f := GStamp.lv) (z := (GStamp.mk 0 0 0)) (id := 117) rfl te69 tz32 tr32 ts32 rfl rfl rfl hv1 rfl ?_)
   refine sAa rfl ?_
   exact s0 (Wk.to (eQ ⟨rfl, rfl, rfl, rfl, trivial⟩) ⟨rfl, trivial⟩ (by simp [keptRefs, LV.refs, LV.refsL, LV.cells, lev, Env.args, Env.of, Env.put, Env.drop, p1_r, p2_r]) (prK rfl))
  obtain ⟨v2, hv2, h⟩ := bindS h
  refine LH.seqT [(0, .lst 9 (List.map GBagEvent.lv p0)), (1, .fn p1_f p1_c), (2, .fn p2_f p2_c), (8, .arr 117 (List.length v1)), (9, .arr 120 (List.length v2))] [(117, .arr 32 3 (List.map GStamp.lv v1)), (120, .arr 3 1 (List.map LV.I v2))] rfl ?_ ?_
  ·refine sMl rfl ?_
   refine sN (oLnL (f := GBagEvent.lv) te25 rfl ?_)
   refine sN (oMk (f := LV.I) (z := 0) (id := 120) rfl te22 tz3 tr3 ts3 rfl rfl rfl hv2 rfl ?_)
   refine sAa rfl ?_
   exact s0 (Wk.to (eQ ⟨rfl, rfl, rfl, rfl, rfl, trivial⟩) ⟨rfl, rfl, trivial⟩ (by simp [keptRefs, LV.refs, LV.refsL, LV.cells, lev, Env.args, Env.of, Env.put, Env.drop, p1_r, p2_r]) (prK rfl))
  refine LH.seqT [(0, .lst 9 (List.map GBagEvent.lv p0)), (1, .fn p1_f p1_c), (2, .fn p2_f p2_c), (8, .arr 117 (List.length v1)), (9, .arr 120 (List.length v2)), (10, .mp 121)] [(117, .arr 32 3 (List.map GStamp.lv v1)), (120, .arr 3 1 (List.map LV.I v2)), (121, .map 32 3 (mlv GStamp.lv LV.I ([] : List (GStamp × Int))))] rfl ?_ ?_
  ·refine sX ((ok_makeMap (kt := 32) (vt := 3) (id := 121) rfl).ok) ?_
   refine sN (oA (v := (.mp _)) rfl ?_)
   exact s0 (Wk.to (eQ ⟨rfl, rfl, rfl, rfl, rfl, rfl, trivial⟩) ⟨rfl, rfl, rfl, trivial⟩ (by simp [keptRefs, LV.refs, LV.refsL, LV.cells, lev, Env.args, Env.of, Env.put, Env.drop, p1_r, p2_r]) (prK rfl))
  refine LH.seq ?_
  refine LH.seqT [(0, .lst 9 (List.map GBagEvent.lv p0)), (1, .fn p1_f p1_c), (2, .fn p2_f p2_c), (8, .arr 117 (List.length v1)), (9, .arr 120 (List.length v2)), (10, .mp 121), (22, .lst 9 (List.map GBagEvent.lv p0)), (23, .I (p0.length : Int)), (24, .I 0)] [(117, .arr 32 3 (List.map GStamp.lv v1)), (120, .arr 3 1 (List.map LV.I v2)), (121, .map 32 3 (mlv GStamp.lv LV.I ([] : List (GStamp × Int))))] rfl ?_ ?_
  ·refine sMl rfl ?_
   refine sN (oLnL (f := GBagEvent.lv) te25 rfl ?_)
   refine sMi rfl ?_
   exact s0 (Wk.to (eQ ⟨rfl, rfl, rfl, rfl, rfl, rfl, rfl, rfl, rfl, trivial⟩) ⟨rfl, rfl, rfl, trivial⟩ (by simp [keptRefs, LV.refs, LV.refsL, LV.cells, lev, Env.args, Env.of, Env.put, Env.drop, p1_r, p2_r]) (prK rfl))
  refine LH.block ?_
  refine LH.loop (fun n e m => ∃ (n3 : Int) (l4 : List GStamp) (l5 : List Int) (m6 : List (GStamp × Int)), copies_Split_BagEvent_L1 p0 p1 p2 n n3 l4 l5 m6 = some r ∧ e = Env.of [(0, .lst 9 (List.map GBagEvent.lv p0)), (1, .fn p1_f p1_c), (2, .fn p2_f p2_c), (8, .arr 117 (List.length l4)), (9, .arr 120 (List.length l5)), (10, .mp 121), (22, .lst 9 (List.map GBagEvent.lv p0)), (23, .I (p0.length : Int)), (24, .I n3)] ∧ m = Mem.of [(117, .arr 32 3 (List.map GStamp.lv l4)), (120, .arr 3 1 (List.map LV.I l5)), (121, .map 32 3 (mlv GStamp.lv LV.I m6))]) F ⟨0, v1, v2, ([] : List (GStamp × Int)), h, rfl, rfl⟩ ?_
  clear h
  rintro n e m ⟨n3, l4, l5, m6, h, rfl, rfl⟩
  rcases n with _ | n
  · cases (show Option.none = some _ from h)
  obtain ⟨rec1, hrec1⟩ : ∃ f, f = copies_Split_BagEvent_L1 p0 p1 p2 n := ⟨_, rfl⟩
  replace h : copies_Split_BagEvent_L1_B p0 p1 p2 rec1 n3 l4 l5 m6 = some r := hrec1 ▸ h
  unfold copies_Split_BagEvent_L1_B at h
  refine LH.seqT [(0, .lst 9 (List.map GBagEvent.lv p0)), (1, .fn p1_f p1_c), (2, .fn p2_f p2_c), (8, .arr 117 (List.length l4)), (9, .arr 120 (List.length l5)), (10, .mp 121), (22, .lst 9 (List.map GBagEvent.lv p0)), (23, .I (p0.length : Int)), (24, .I n3), (25, .bool (decide (n3 < (p0.length : Int))))] [(117, .arr 32 3 (List.map GStamp.lv l4)), (120, .arr 3 1 (List.map LV.I l5)), (121, .map 32 3 (mlv GStamp.lv LV.I m6))] rfl ?_ ?_
  ·refine sN (oLt rfl rfl ?_)
   exact s0 (Wk.to (eQ ⟨rfl, rfl, rfl, rfl, rfl, rfl, rfl, rfl, rfl, rfl, trivial⟩) ⟨rfl, rfl, rfl, trivial⟩ (by simp [keptRefs, LV.refs, LV.refsL, LV.cells, lev, Env.args, Env.of, Env.put, Env.drop, p1_r, p2_r]) (prK rfl))
  refine LH.seq ?_
  refine LH.cond (t := (decide (n3 < (p0.length : Int)))) rfl (fun hc7 => ?_) (fun hc7 => ?_)
  ·replace h := iteT h hc7
   refine LH.skip ?_
   refine thenN ?_
   refine LH.wk (Wk.to (el := [(0, .lst 9 (List.map GBagEvent.lv p0)), (1, .fn p1_f p1_c), (2, .fn p2_f p2_c), (8, .arr 117 (List.length l4)), (9, .arr 120 (List.length l5)), (10, .mp 121), (22, .lst 9 (List.map GBagEvent.lv p0)), (23, .I (p0.length : Int)), (24, .I n3)]) (ml := [(117, .arr 32 3 (List.map GStamp.lv l4)), (120, .arr 3 1 (List.map LV.I l5)), (121, .map 32 3 (mlv GStamp.lv LV.I m6))]) (eQ ⟨rfl, rfl, rfl, rfl, rfl, rfl, rfl, rfl, rfl, trivial⟩) ⟨rfl, rfl, rfl, trivial⟩ (by simp [keptRefs, LV.refs, LV.refsL, LV.cells, lev, Env.args, Env.of, Env.put, Env.drop, p1_r, p2_r]) (prK rfl)) ?_
   refine LH.seq ?_
   refine LH.block ?_
   obtain ⟨x8, hx8, h⟩ := bindS h
   refine LH.seqT [(0, .lst 9 (List.map GBagEvent.lv p0)), (1, .fn p1_f p1_c), (2, .fn p2_f p2_c), (8, .arr 117 (List.length l4)), (9, .arr 120 (List.length l5)), (10, .mp 121), (11, .I n3), (12, .ptr 112 0), (22, .lst 9 (List.map GBagEvent.lv p0)), (23, .I (p0.length : Int)), (24, .I n3)] [(112, .box [.I x8.Stamp.Time, .I x8.Stamp.Source, .I x8.Stamp.Seq, .I x8.Kind, .I x8.Bag, .I x8.Seal, .I x8.From, .I x8.To, .L x8.Candidates]), (117, .arr 32 3 (List.map GStamp.lv l4)), (120, .arr 3 1 (List.map LV.I l5)), (121, .map 32 3 (mlv GStamp.lv LV.I m6))] rfl ?_ ?_
   ·refine sMi rfl ?_
    refine sN (oIx (f := GBagEvent.lv) te25 tk34 ts34 rfl rfl GBagEvent.ok hx8 rfl ?_)
    refine sN (oLdA rfl tk34 ta34 ts34 rfl rfl ?_)
    refine sN (oAl (id := 112) rfl tz34 rfl rfl ?_)
    refine sAi rfl ?_
    refine s_ (oSt rfl rfl rfl tk34 ts34 rfl rfl rfl ?_)
    exact s0 (Wk.to (eQ ⟨rfl, rfl, rfl, rfl, rfl, rfl, rfl, rfl, rfl, rfl, rfl, trivial⟩) ⟨rfl, rfl, rfl, rfl, trivial⟩ (by simp [keptRefs, LV.refs, LV.refsL, LV.cells, lev, Env.args, Env.of, Env.put, Env.drop, p1_r, p2_r]) (prK rfl))
   obtain ⟨r9, hr9, h⟩ := bindS h
   obtain ⟨x10, hx10, h⟩ := bindS h
   refine LH.seqT [(0, .lst 9 (List.map GBagEvent.lv p0)), (1, .fn p1_f p1_c), (2, .fn p2_f p2_c), (8, .arr 117 (List.length (l4.set n3.toNat r9))), (9, .arr 120 (List.length l5)), (10, .mp 121), (11, .I n3), (12, .ptr 112 0), (22, .lst 9 (List.map GBagEvent.lv p0)), (23, .I (p0.length : Int)), (24, .I n3)] [(112, .box [.I x8.Stamp.Time, .I x8.Stamp.Source, .I x8.Stamp.Seq, .I x8.Kind, .I x8.Bag, .I x8.Seal, .I x8.From, .I x8.To, .L x8.Candidates]), (117, .arr 32 3 (List.map GStamp.lv (l4.set n3.toNat r9))), (120, .arr 3 1 (List.map LV.I l5)), (121, .map 32 3 (mlv GStamp.lv LV.I m6))] rfl ?_ ?_
   ·refine sMa rfl ?_
    refine sMi rfl ?_
    refine sN (oM (v := (.fn _ _)) rfl ?_)
    refine sN (oLdPA rfl rfl rfl tk34 ta34 ts34 rfl rfl ?_)
    refine sN (oCP (args := [.agg [.I x8.Stamp.Time, .I x8.Stamp.Source, .I x8.Stamp.Seq, .I x8.Kind, .I x8.Bag, .I x8.Seal, .I x8.From, .I x8.To, .L x8.Candidates]] ++ p1_c) (args' := [.agg [.I x8.Stamp.Time, .I x8.Stamp.Source, .I x8.Stamp.Seq, .I x8.Kind, .I x8.Bag, .I x8.Seal, .I x8.From, .I x8.To, .L x8.Candidates]] ++ p1_c) rfl p1_i rfl SubL.rfl (p1_k _ _ hr9) (p1_p rfl) ?_)
    refine sN (oIxA (f := GStamp.lv) te69 tk32 ts32 rfl rfl rfl hx10 ?_)
    refine s_ (oStE (f := GStamp.lv) (z' := r9) rfl rfl rfl rfl tk32 ts32 rfl (idxOk hx10).2 rfl ?_)
    exact s0 (Wk.to (eC rfl (eC rfl (eC rfl (eC (congrArg (LV.arr 117) (by simp)) (eC rfl (eC rfl (eC rfl (eC rfl (eC rfl (eC rfl (eC rfl eN))))))))))) ⟨rfl, rfl, rfl, rfl, trivial⟩ (by simp [keptRefs, LV.refs, LV.refsL, LV.cells, lev, Env.args, Env.of, Env.put, Env.drop, p1_r, p2_r]) (prK rfl))
   obtain ⟨x11, hx11, h⟩ := bindS h
   refine LH.seqT [(0, .lst 9 (List.map GBagEvent.lv p0)), (1, .fn p1_f p1_c), (2, .fn p2_f p2_c), (8, .arr 117 (List.length (l4.set n3.toNat r9))), (9, .arr 120 (List.length l5)), (10, .mp 121), (11, .I n3), (12, .ptr 112 0), (13, .I ((mget m6 x11).getD 0)), (14, .bool ((mget m6 x11).isSome)), (22, .lst 9 (List.map GBagEvent.lv p0)), (23, .I (p0.length : Int)), (24, .I n3)] [(112, .box [.I x8.Stamp.Time, .I x8.Stamp.Source, .I x8.Stamp.Seq, .I x8.Kind, .I x8.Bag, .I x8.Seal, .I x8.From, .I x8.To, .L x8.Candidates]), (117, .arr 32 3 (List.map GStamp.lv (l4.set n3.toNat r9))), (120, .arr 3 1 (List.map LV.I l5)), (121, .map 32 3 (mlv GStamp.lv LV.I m6))] rfl ?_ ?_
   ·refine sN (oM (v := (.mp _)) rfl ?_)
    refine sMa rfl ?_
    refine sMi rfl ?_
    refine sN (oIxA (f := GStamp.lv) te69 tk32 ts32 rfl rfl rfl hx11 ?_)
    refine sN (oLdEA (f := GStamp.lv) rfl rfl (idxOk hx11).2 rfl rfl tk32 ta32 ts32 rfl rfl ?_)
    refine sX ((ok_lookup2 (f := GStamp.lv) (g := LV.I) (xs := m6) (key := x11) (z := 0) tm95 kok32 kf32 rfl rfl rfl tz3).ok) ?_
    refine sMt rfl ?_
    refine sN (oEx rfl rfl ?_)
    refine sN (oEx rfl rfl ?_)
    refine sAi rfl ?_
    refine sAb rfl ?_
    exact s0 (Wk.to (eQ ⟨rfl, rfl, rfl, rfl, rfl, rfl, rfl, rfl, rfl, rfl, rfl, rfl, rfl, trivial⟩) ⟨rfl, rfl, rfl, rfl, trivial⟩ (by simp [keptRefs, LV.refs, LV.refsL, LV.cells, lev, Env.args, Env.of, Env.put, Env.drop, p1_r, p2_r]) (prK rfl))
   refine LH.seqT [(0, .lst 9 (List.map GBagEvent.lv p0)), (1, .fn p1_f p1_c), (2, .fn p2_f p2_c), (8, .arr 117 (List.length (l4.set n3.toNat r9))), (9, .arr 120 (List.length l5)), (10, .mp 121), (11, .I n3), (12, .ptr 112 0), (13, .I ((mget m6 x11).getD 0)), (22, .lst 9 (List.map GBagEvent.lv p0)), (23, .I (p0.length : Int)), (24, .I n3), (45, .bool (!((mget m6 x11).isSome)))] [(112, .box [.I x8.Stamp.Time, .I x8.Stamp.Source, .I x8.Stamp.Seq, .I x8.Kind, .I x8.Bag, .I x8.Seal, .I x8.From, .I x8.To, .L x8.Candidates]), (117, .arr 32 3 (List.map GStamp.lv (l4.set n3.toNat r9))), (120, .arr 3 1 (List.map LV.I l5)), (121, .map 32 3 (mlv GStamp.lv LV.I m6))] rfl ?_ ?_
   ·refine sMb rfl ?_
    refine sN (oNot rfl ?_)
    exact s0 (Wk.to (eQ ⟨rfl, rfl, rfl, rfl, rfl, rfl, rfl, rfl, rfl, rfl, rfl, rfl, rfl, trivial⟩) ⟨rfl, rfl, rfl, rfl, trivial⟩ (by simp [keptRefs, LV.refs, LV.refsL, LV.cells, lev, Env.args, Env.of, Env.put, Env.drop, p1_r, p2_r]) (prK rfl))
   refine LH.cond (t := (!((mget m6 x11).isSome))) rfl (fun hc12 => ?_) (fun hc12 => ?_)
   ·replace h := iteT h hc12
    obtain ⟨x13, hx13, h⟩ := bindS h
    refine LH.loneT [(0, .lst 9 (List.map GBagEvent.lv p0)), (1, .fn p1_f p1_c), (2, .fn p2_f p2_c), (8, .arr 117 (List.length (l4.set n3.toNat r9))), (9, .arr 120 (List.length l5)), (10, .mp 121), (22, .lst 9 (List.map GBagEvent.lv p0)), (23, .I (p0.length : Int)), (24, .I n3)] [(117, .arr 32 3 (List.map GStamp.lv (l4.set n3.toNat r9))), (120, .arr 3 1 (List.map LV.I l5)), (121, .map 32 3 (mlv GStamp.lv LV.I (mput m6 x13 n3)))] rfl ?_ ?_
    ·refine sN (oM (v := (.mp _)) rfl ?_)
     refine sMa rfl ?_
     refine sMi rfl ?_
     refine sN (oIxA (f := GStamp.lv) te69 tk32 ts32 rfl rfl rfl hx13 ?_)
     refine sN (oLdEA (f := GStamp.lv) rfl rfl (idxOk hx13).2 rfl rfl tk32 ta32 ts32 rfl rfl ?_)
     refine sMi rfl ?_
     refine sX_ ((ok_update (f := GStamp.lv) (g := LV.I) (xs := m6) (key := x13) (val := n3) (.inl rfl) tm95 kok32 kf32 (fun _ => rfl) rfl rfl rfl rfl).ok) ?_
     exact s0 (Wk.to (eQ ⟨rfl, rfl, rfl, rfl, rfl, rfl, rfl, rfl, rfl, trivial⟩) ⟨rfl, rfl, rfl, trivial⟩ (by simp [keptRefs, LV.refs, LV.refsL, LV.cells, lev, Env.args, Env.of, Env.put, Env.drop, p1_r, p2_r]) (prK rfl))
    refine blockN ?_
    refine thenN ?_
    refine LH.loneT [(0, .lst 9 (List.map GBagEvent.lv p0)), (1, .fn p1_f p1_c), (2, .fn p2_f p2_c), (8, .arr 117 (List.length (l4.set n3.toNat r9))), (9, .arr 120 (List.length l5)), (10, .mp 121), (22, .lst 9 (List.map GBagEvent.lv p0)), (23, .I (p0.length : Int)), (24, .I (i64 (n3 + 1)))] [(117, .arr 32 3 (List.map GStamp.lv (l4.set n3.toNat r9))), (120, .arr 3 1 (List.map LV.I l5)), (121, .map 32 3 (mlv GStamp.lv LV.I (mput m6 x13 n3)))] rfl ?_ ?_
    ·refine sN (oAdd rfl rfl ?_)
     refine sMi rfl ?_
     exact s0 (Wk.to (eQ ⟨rfl, rfl, rfl, rfl, rfl, rfl, rfl, rfl, rfl, trivial⟩) ⟨rfl, rfl, rfl, trivial⟩ (by simp [keptRefs, LV.refs, LV.refsL, LV.cells, lev, Env.args, Env.of, Env.put, Env.drop, p1_r, p2_r]) (prK rfl))
    exact roundI ⟨(i64 (n3 + 1)), (l4.set n3.toNat r9), l5, (mput m6 x13 n3), hrec1 ▸ h, rfl, rfl⟩ (Wk.to (eQ ⟨rfl, rfl, rfl, rfl, rfl, rfl, rfl, rfl, rfl, trivial⟩) ⟨rfl, rfl, rfl, trivial⟩ (by simp [keptRefs, LV.refs, LV.refsL, LV.cells, lev, Env.args, Env.of, Env.put, Env.drop, p1_r, p2_r]) (prK rfl))
   replace h := iteF h hc12
   obtain ⟨x14, hx14, h⟩ := bindS h
   obtain ⟨r15, hr15, h⟩ := bindS h
   refine LH.seqJM mixed [] [0, 0, 0, 0, 0, 1112, 0, 0] [(0, .lst 9 (List.map GBagEvent.lv p0)), (1, .fn p1_f p1_c), (2, .fn p2_f p2_c), (8, .arr 117 (List.length (l4.set n3.toNat r9))), (9, .arr 120 (List.length l5)), (10, .mp 121), (11, .I n3), (22, .lst 9 (List.map GBagEvent.lv p0)), (23, .I (p0.length : Int)), (24, .I n3), (59, .bool (!r15))] [(117, .arr 32 3 (List.map GStamp.lv (l4.set n3.toNat r9))), (120, .arr 3 1 (List.map LV.I l5)), (121, .map 32 3 (mlv GStamp.lv LV.I m6))] rfl rfl (by kernel_rfl) ?_ ?_
   ·refine mN0 (oM (v := (.fn _ _)) rfl ⟨rfl, ?_⟩)
    refine mN0 (oM (v := (.lst _ _)) rfl ⟨rfl, ?_⟩)
    refine mN0 (oM (v := (.int _ _)) rfl ⟨rfl, ?_⟩)
    refine mN0 (oIx (f := GBagEvent.lv) te25 tk34 ts34 rfl rfl GBagEvent.ok hx14 rfl ⟨rfl, ?_⟩)
    refine mN0 (oLdA rfl tk34 ta34 ts34 rfl rfl ⟨rfl, ?_⟩)
    refine mD rfl rfl rfl (fun m0 hm0 K0 hK0 => oLdPA rfl hm0 rfl tk34 ta34 ts34 rfl rfl hK0) ?_
    refine mN0 (oCP (args := [.agg [.I x14.Stamp.Time, .I x14.Stamp.Source, .I x14.Stamp.Seq, .I x14.Kind, .I x14.Bag, .I x14.Seal, .I x14.From, .I x14.To, .L x14.Candidates], .agg [.I x8.Stamp.Time, .I x8.Stamp.Source, .I x8.Stamp.Seq, .I x8.Kind, .I x8.Bag, .I x8.Seal, .I x8.From, .I x8.To, .L x8.Candidates]] ++ p2_c) (args' := [.agg [.I x14.Stamp.Time, .I x14.Stamp.Source, .I x14.Stamp.Seq, .I x14.Kind, .I x14.Bag, .I x14.Seal, .I x14.From, .I x14.To, .L x14.Candidates], .agg [.I x8.Stamp.Time, .I x8.Stamp.Source, .I x8.Stamp.Seq, .I x8.Kind, .I x8.Bag, .I x8.Seal, .I x8.From, .I x8.To, .L x8.Candidates]] ++ p2_c) rfl p2_i rfl SubL.rfl (p2_k _ _ _ hr15) (p2_p rfl) ⟨rfl, ?_⟩)
    refine mN0 (oNot rfl ⟨rfl, ?_⟩)
    exact m0 (Wk.to (eQ ⟨rfl, rfl, rfl, rfl, rfl, rfl, rfl, rfl, rfl, rfl, rfl, trivial⟩) ⟨rfl, rfl, rfl, trivial⟩ (by simp [keptRefs, LV.refs, LV.refsL, LV.cells, lev, Env.args, Env.of, Env.put, Env.drop, p1_r, p2_r]) (prK rfl))
   refine LH.cond (t := (!r15)) rfl (fun hc16 => ?_) (fun hc16 => ?_)
   ·replace h := iteT h hc16
    obtain ⟨x17, hx17, h⟩ := bindS h
    refine LH.loneT [(0, .lst 9 (List.map GBagEvent.lv p0)), (1, .fn p1_f p1_c), (2, .fn p2_f p2_c), (8, .arr 117 (List.length (l4.set n3.toNat r9))), (9, .arr 120 (List.length (l5.set n3.toNat 1))), (10, .mp 121), (22, .lst 9 (List.map GBagEvent.lv p0)), (23, .I (p0.length : Int)), (24, .I n3)] [(117, .arr 32 3 (List.map GStamp.lv (l4.set n3.toNat r9))), (120, .arr 3 1 (List.map LV.I (l5.set n3.toNat 1))), (121, .map 32 3 (mlv GStamp.lv LV.I m6))] rfl ?_ ?_
    ·refine sMa rfl ?_
     refine sMi rfl ?_
     refine sN (oIxA (f := LV.I) te22 tk3 ts3 rfl rfl rfl hx17 ?_)
     refine s_ (oStE (f := LV.I) (z' := 1) rfl rfl rfl rfl tk3 ts3 rfl (idxOk hx17).2 rfl ?_)
     exact s0 (Wk.to (eC rfl (eC rfl (eC rfl (eC rfl (eC (congrArg (LV.arr 120) (by simp)) (eC rfl (eC rfl (eC rfl (eC rfl eN))))))))) ⟨rfl, rfl, rfl, trivial⟩ (by simp [keptRefs, LV.refs, LV.refsL, LV.cells, lev, Env.args, Env.of, Env.put, Env.drop, p1_r, p2_r]) (prK rfl))
    refine blockN ?_
    refine thenN ?_
    refine LH.loneT [(0, .lst 9 (List.map GBagEvent.lv p0)), (1, .fn p1_f p1_c), (2, .fn p2_f p2_c), (8, .arr 117 (List.length (l4.set n3.toNat r9))), (9, .arr 120 (List.length (l5.set n3.toNat 1))), (10, .mp 121), (22, .lst 9 (List.map GBagEvent.lv p0)), (23, .I (p0.length : Int)), (24, .I (i64 (n3 + 1)))] [(117, .arr 32 3 (List.map GStamp.lv (l4.set n3.toNat r9))), (120, .arr 3 1 (List.map LV.I (l5.set n3.toNat 1))), (121, .map 32 3 (mlv GStamp.lv LV.I m6))] rfl ?_ ?_
    ·refine sN (oAdd rfl rfl ?_)
     refine sMi rfl ?_
     exact s0 (Wk.to (eQ ⟨rfl, rfl, rfl, rfl, rfl, rfl, rfl, rfl, rfl, trivial⟩) ⟨rfl, rfl, rfl, trivial⟩ (by simp [keptRefs, LV.refs, LV.refsL, LV.cells, lev, Env.args, Env.of, Env.put, Env.drop, p1_r, p2_r]) (prK rfl))
    exact roundI ⟨(i64 (n3 + 1)), (l4.set n3.toNat r9), (l5.set n3.toNat 1), m6, hrec1 ▸ h, rfl, rfl⟩ (Wk.to (eQ ⟨rfl, rfl, rfl, rfl, rfl, rfl, rfl, rfl, rfl, trivial⟩) ⟨rfl, rfl, rfl, trivial⟩ (by simp [keptRefs, LV.refs, LV.refsL, LV.cells, lev, Env.args, Env.of, Env.put, Env.drop, p1_r, p2_r]) (prK rfl))
   replace h := iteF h hc16
   refine LH.skip ?_
   refine blockN ?_
   refine thenN ?_
   refine LH.loneT [(0, .lst 9 (List.map GBagEvent.lv p0)), (1, .fn p1_f p1_c), (2, .fn p2_f p2_c), (8, .arr 117 (List.length (l4.set n3.toNat r9))), (9, .arr 120 (List.length l5)), (10, .mp 121), (22, .lst 9 (List.map GBagEvent.lv p0)), (23, .I (p0.length : Int)), (24, .I (i64 (n3 + 1)))] [(117, .arr 32 3 (List.map GStamp.lv (l4.set n3.toNat r9))), (120, .arr 3 1 (List.map LV.I l5)), (121, .map 32 3 (mlv GStamp.lv LV.I m6))] rfl ?_ ?_
   ·refine sN (oAdd rfl rfl ?_)
    refine sMi rfl ?_
    exact s0 (Wk.to (eQ ⟨rfl, rfl, rfl, rfl, rfl, rfl, rfl, rfl, rfl, trivial⟩) ⟨rfl, rfl, rfl, trivial⟩ (by simp [keptRefs, LV.refs, LV.refsL, LV.cells, lev, Env.args, Env.of, Env.put, Env.drop, p1_r, p2_r]) (prK rfl))
   exact roundI ⟨(i64 (n3 + 1)), (l4.set n3.toNat r9), l5, m6, hrec1 ▸ h, rfl, rfl⟩ (Wk.to (eQ ⟨rfl, rfl, rfl, rfl, rfl, rfl, rfl, rfl, rfl, trivial⟩) ⟨rfl, rfl, rfl, trivial⟩ (by simp [keptRefs, LV.refs, LV.refsL, LV.cells, lev, Env.args, Env.of, Env.put, Env.drop, p1_r, p2_r]) (prK rfl))
  replace h := iteF h hc7
  refine LH.exit ?_
  refine thenX ?_
  refine roundX ?_
  refine blockH ?_
  refine thenN ?_
  refine LH.wk ((Wk.trans (Wk.to (el := [(8, .arr 117 (List.length l4)), (9, .arr 120 (List.length l5))]) (ml := [(117, .arr 32 3 (List.map GStamp.lv l4)), (120, .arr 3 1 (List.map LV.I l5))]) (eQ ⟨rfl, rfl, trivial⟩) ⟨rfl, rfl, trivial⟩ (by simp [keptRefs, LV.refs, LV.refsL, LV.cells, lev, Env.args, Env.of, Env.put, Env.drop, p1_r, p2_r]) (prK rfl)) (Wk.trans (Wk.frzL (f := GStamp.lv) (el' := [(8, .lst 3 (List.map GStamp.lv l4)), (9, .arr 120 (List.length l5))]) 117 32 3 l4 rfl rfl (prN rfl) (fZ (fK rfl fN))) (Wk.trans (Wk.frzL (f := LV.I) (el' := [(8, .lst 3 (List.map GStamp.lv l4)), (9, .L l5)]) 120 3 1 l5 rfl rfl (prN rfl) (fK rfl (fZ fN))) (Wk.to (el := [(8, .lst 3 (List.map GStamp.lv l4)), (9, .L l5)]) (ml := []) (eQ ⟨rfl, rfl, trivial⟩) mN (by simp [keptRefs, LV.refs, LV.refsL, LV.cells, lev, Env.args, Env.of, Env.put, Env.drop, p1_r, p2_r]) (prK rfl)))))) ?_
  refine LH.seqT [(6, .lst 3 (List.map GStamp.lv l4)), (7, .L l5)] [] rfl ?_ ?_
  ·refine sMl rfl ?_
   refine sMl rfl ?_
   refine sAl rfl ?_
   refine sAl rfl ?_
   exact s0 (Wk.to (eQ ⟨rfl, rfl, trivial⟩) mN (by simp [keptRefs, LV.refs, LV.refsL, LV.cells, lev, Env.args, Env.of, Env.put, Env.drop, p1_r, p2_r]) (prK rfl))
  refine LH.ret ?_
  obtain rfl := Option.some.inj h
  exact retE (congrArg Array.toList Try.results46) (lrT rfl (lrT rfl (lr0 ⟨memN mN, rfl, prK rfl, (Sub.tup (sbR (sbR sbN)))⟩)))

theorem stamp_Valid_ok {p0 : GStamp} {r : Bool} (h : stamp_Valid p0 = some r) : LCall Try.prog 88 [.agg [.I p0.Time, .I p0.Source, .I p0.Seq]] (Mem.of []) (.bool r) (Mem.of []) := by
  unfold stamp_Valid at h
  refine bodyT Try.func88 rfl (by rw [Try.ntmps88]; exact Nat.le_of_ble_eq_true rfl) ?_
  refine LH.wk (Wk.eq (el := [(0, .agg [.I p0.Time, .I p0.Source, .I p0.Seq])]) (ml := []) rfl rfl rfl rfl) ?_
  refine LH.seqT [(1, .sptr [.I p0.Time, .I p0.Source, .I p0.Seq])] [] rfl ?_ ?_
  ·refine sB (oBxR rfl rfl rfl rfl ?_)
   refine sAb rfl ?_
   exact s0 (Wk.eq rfl rfl rfl rfl)
  refine LH.seqT [(2, .bool ((decide (p0.Time ≥ 0)) && ((decide (p0.Time ≤ 1000000)) && ((decide (p0.Source ≥ 0)) && ((decide (p0.Source ≤ 99)) && ((decide (p0.Seq ≥ 0)) && (decide (p0.Seq ≤ 9999))))))))] [] rfl ?_ ?_
  ·refine sN (oFaS tf32_0 tk3 ts3 rfl rfl rfl ?_)
   refine sN (oLd rfl tk3 ta3 ?_)
   refine sN (oGe rfl rfl ?_)
   refine sMb rfl ?_
   by_cases hb2 : (decide (p0.Time ≥ 0)) = true
   ·refine sT rfl (congrArg LV.bool hb2) (oFaS tf32_0 tk3 ts3 rfl rfl rfl ?_)
    refine sT rfl (congrArg LV.bool hb2) (oLd rfl tk3 ta3 ?_)
    refine sT rfl (congrArg LV.bool hb2) (oLe rfl rfl ?_)
    refine sN (oPkT (congrArg LV.bool hb2) (v := (.bool _)) rfl ?_)
    refine sMb rfl ?_
    by_cases hb3 : (decide (p0.Time ≤ 1000000)) = true
    ·refine sT rfl (congrArg LV.bool hb3) (oFaS tf32_1 tk3 ts3 rfl rfl rfl ?_)
     refine sT rfl (congrArg LV.bool hb3) (oLd rfl tk3 ta3 ?_)
     refine sT rfl (congrArg LV.bool hb3) (oGe rfl rfl ?_)
     refine sN (oPkT (congrArg LV.bool hb3) (v := (.bool _)) rfl ?_)
     refine sMb rfl ?_
     by_cases hb4 : (decide (p0.Source ≥ 0)) = true
     ·refine sT rfl (congrArg LV.bool hb4) (oFaS tf32_1 tk3 ts3 rfl rfl rfl ?_)
      refine sT rfl (congrArg LV.bool hb4) (oLd rfl tk3 ta3 ?_)
      refine sT rfl (congrArg LV.bool hb4) (oLe rfl rfl ?_)
      refine sN (oPkT (congrArg LV.bool hb4) (v := (.bool _)) rfl ?_)
      refine sMb rfl ?_
      by_cases hb5 : (decide (p0.Source ≤ 99)) = true
      ·refine sT rfl (congrArg LV.bool hb5) (oFaS tf32_2 tk3 ts3 rfl rfl rfl ?_)
       refine sT rfl (congrArg LV.bool hb5) (oLd rfl tk3 ta3 ?_)
       refine sT rfl (congrArg LV.bool hb5) (oGe rfl rfl ?_)
       refine sN (oPkT (congrArg LV.bool hb5) (v := (.bool _)) rfl ?_)
       refine sMb rfl ?_
       by_cases hb6 : (decide (p0.Seq ≥ 0)) = true
       ·refine sT rfl (congrArg LV.bool hb6) (oFaS tf32_2 tk3 ts3 rfl rfl rfl ?_)
        refine sT rfl (congrArg LV.bool hb6) (oLd rfl tk3 ta3 ?_)
        refine sT rfl (congrArg LV.bool hb6) (oLe rfl rfl ?_)
        refine sN (oPkT (congrArg LV.bool hb6) (v := (.bool _)) rfl ?_)
        refine sAb rfl ?_
        exact s0 (Wk.to (eC (congrArg LV.bool (Eq.trans (Eq.trans (Eq.trans (Eq.trans (andT hb6) (andT hb5)) (andT hb4)) (andT hb3)) (andT hb2))) eN) mN rfl (prK rfl))
       ·replace hb6 := bF hb6
        refine sF rfl rfl hb6 ?_
        refine sF rfl rfl hb6 ?_
        refine sF rfl rfl hb6 ?_
        refine sN (oPkF (congrArg LV.bool hb6) (v := (.bool _)) rfl ?_)
        refine sAb rfl ?_
        exact s0 (Wk.to (eC (congrArg LV.bool (Eq.trans (Eq.trans (Eq.trans (Eq.trans (andF hb6) (andT hb5)) (andT hb4)) (andT hb3)) (andT hb2))) eN) mN rfl (prK rfl))
      ·replace hb5 := bF hb5
       refine sF rfl rfl hb5 ?_
       refine sF rfl rfl hb5 ?_
       refine sF rfl rfl hb5 ?_
       refine sN (oPkF (congrArg LV.bool hb5) (v := (.bool _)) rfl ?_)
       refine sMb rfl ?_
       refine sF rfl rfl rfl ?_
       refine sF rfl rfl rfl ?_
       refine sF rfl rfl rfl ?_
       refine sN (oPkF rfl (v := (.bool _)) rfl ?_)
       refine sAb rfl ?_
       exact s0 (Wk.to (eC (congrArg LV.bool (Eq.trans (Eq.trans (Eq.trans (andF hb5) (andT hb4)) (andT hb3)) (andT hb2))) eN) mN rfl (prK rfl))
     ·replace hb4 := bF hb4
      refine sF rfl rfl hb4 ?_
      refine sF rfl rfl hb4 ?_
      refine sF rfl rfl hb4 ?_
      refine sN (oPkF (congrArg LV.bool hb4) (v := (.bool _)) rfl ?_)
      refine sMb rfl ?_
      refine sF rfl rfl rfl ?_
      refine sF rfl rfl rfl ?_
      refine sF rfl rfl rfl ?_
      refine sN (oPkF rfl (v := (.bool _)) rfl ?_)
      refine sMb rfl ?_
      refine sF rfl rfl rfl ?_
      refine sF rfl rfl rfl ?_
      refine sF rfl rfl rfl ?_
      refine sN (oPkF rfl (v := (.bool _)) rfl ?_)
      refine sAb rfl ?_
      exact s0 (Wk.to (eC (congrArg LV.bool (Eq.trans (Eq.trans (andF hb4) (andT hb3)) (andT hb2))) eN) mN rfl (prK rfl))
    ·replace hb3 := bF hb3
     refine sF rfl rfl hb3 ?_
     refine sF rfl rfl hb3 ?_
     refine sF rfl rfl hb3 ?_
     refine sN (oPkF (congrArg LV.bool hb3) (v := (.bool _)) rfl ?_)
     refine sMb rfl ?_
     refine sF rfl rfl rfl ?_
     refine sF rfl rfl rfl ?_
     refine sF rfl rfl rfl ?_
     refine sN (oPkF rfl (v := (.bool _)) rfl ?_)
     refine sMb rfl ?_
     refine sF rfl rfl rfl ?_
     refine sF rfl rfl rfl ?_
     refine sF rfl rfl rfl ?_
     refine sN (oPkF rfl (v := (.bool _)) rfl ?_)
     refine sMb rfl ?_
     refine sF rfl rfl rfl ?_
     refine sF rfl rfl rfl ?_
     refine sF rfl rfl rfl ?_
     refine sN (oPkF rfl (v := (.bool _)) rfl ?_)
     refine sAb rfl ?_
     exact s0 (Wk.to (eC (congrArg LV.bool (Eq.trans (andF hb3) (andT hb2))) eN) mN rfl (prK rfl))
   ·replace hb2 := bF hb2
    refine sF rfl rfl hb2 ?_
    refine sF rfl rfl hb2 ?_
    refine sF rfl rfl hb2 ?_
    refine sN (oPkF (congrArg LV.bool hb2) (v := (.bool _)) rfl ?_)
    refine sMb rfl ?_
    refine sF rfl rfl rfl ?_
    refine sF rfl rfl rfl ?_
    refine sF rfl rfl rfl ?_
    refine sN (oPkF rfl (v := (.bool _)) rfl ?_)
    refine sMb rfl ?_
    refine sF rfl rfl rfl ?_
    refine sF rfl rfl rfl ?_
    refine sF rfl rfl rfl ?_
    refine sN (oPkF rfl (v := (.bool _)) rfl ?_)
    refine sMb rfl ?_
    refine sF rfl rfl rfl ?_
    refine sF rfl rfl rfl ?_
    refine sF rfl rfl rfl ?_
    refine sN (oPkF rfl (v := (.bool _)) rfl ?_)
    refine sMb rfl ?_
    refine sF rfl rfl rfl ?_
    refine sF rfl rfl rfl ?_
    refine sF rfl rfl rfl ?_
    refine sN (oPkF rfl (v := (.bool _)) rfl ?_)
    refine sAb rfl ?_
    exact s0 (Wk.to (eC (congrArg LV.bool (andF hb2)) eN) mN rfl (prK rfl))
  refine LH.ret ?_
  obtain rfl := Option.some.inj h
  exact retE (congrArg Array.toList Try.results88) (lrT rfl (lr0 ⟨memN mN, rfl, prK rfl, Sub.rfl⟩))

theorem cmp_isNaN_int_ok {p0 : Int} {r : Bool} (h : cmp_isNaN_int p0 = some r) : LCall Try.prog 73 [.I p0] (Mem.of []) (.bool r) (Mem.of []) := by
  unfold cmp_isNaN_int at h
  refine bodyT Try.func73 rfl (by rw [Try.ntmps73]; exact Nat.le_of_ble_eq_true rfl) ?_
  refine LH.wk (Wk.eq (el := [(0, .I p0)]) (ml := []) rfl rfl rfl rfl) ?_
  refine LH.seqT [(0, .I p0)] [] rfl ?_ ?_
  ·refine sAb rfl ?_
   exact s0 (Wk.eq rfl rfl rfl rfl)
  refine LH.seqT [(2, .bool (p0 != p0))] [] rfl ?_ ?_
  ·refine sMi rfl ?_
   refine sMi rfl ?_
   refine sN (oNe rfl rfl ?_)
   refine sAb rfl ?_
   exact s0 (Wk.eq rfl rfl rfl rfl)
  refine LH.ret ?_
  obtain rfl := Option.some.inj h
  exact retE (congrArg Array.toList Try.results73) (lrT rfl (lr0 ⟨memN mN, rfl, prK rfl, Sub.rfl⟩))

theorem cmp_Compare_int_ok {p0 : Int} {p1 : Int} {r : Int} (h : cmp_Compare_int p0 p1 = some r) : LCall Try.prog 52 [.I p0, .I p1] (Mem.of []) (.I r) (Mem.of []) := by
  unfold cmp_Compare_int at h
  refine bodyT Try.func52 rfl (by rw [Try.ntmps52]; exact Nat.le_of_ble_eq_true rfl) ?_
  refine LH.wk (Wk.eq (el := [(0, .I p0), (1, .I p1)]) (ml := []) rfl rfl rfl rfl) ?_
  refine LH.seqT [(0, .I p0), (1, .I p1)] [] rfl ?_ ?_
  ·refine sAi rfl ?_
   exact s0 (Wk.eq rfl rfl rfl rfl)
  obtain ⟨r1, hr1, h⟩ := bindS h
  refine LH.seqT [(0, .I p0), (1, .I p1), (5, .bool r1)] [] rfl ?_ ?_
  ·refine sMi rfl ?_
   refine sN (oCP (args := [.I p0]) rfl isF73 rfl (sbR sbN) (cmp_isNaN_int_ok hr1) rfl ?_)
   refine sAb rfl ?_
   exact s0 (Wk.eq rfl rfl rfl rfl)
  obtain ⟨r2, hr2, h⟩ := bindS h
  refine LH.seqT [(0, .I p0), (1, .I p1), (5, .bool r1), (6, .bool r2)] [] rfl ?_ ?_
  ·refine sMi rfl ?_
   refine sN (oCP (args := [.I p1]) rfl isF73 rfl (sbR sbN) (cmp_isNaN_int_ok hr2) rfl ?_)
   refine sAb rfl ?_
   exact s0 (Wk.eq rfl rfl rfl rfl)
  refine LH.seq ?_
  refine LH.seqT [(0, .I p0), (1, .I p1), (6, .bool r2), (11, .bool r1)] [] rfl ?_ ?_
  ·refine sMb rfl ?_
   exact s0 (Wk.eq rfl rfl rfl rfl)
  refine LH.cond (t := r1) rfl (fun hc3 => ?_) (fun hc3 => ?_)
  ·replace h := iteT h hc3
   refine LH.seq ?_
   refine LH.seqT [(12, .bool r2)] [] rfl ?_ ?_
   ·refine sMb rfl ?_
    exact s0 (Wk.eq rfl rfl rfl rfl)
   refine LH.cond (t := r2) rfl (fun hc4 => ?_) (fun hc4 => ?_)
   ·replace h := iteT h hc4
    refine LH.seqT [(4, .I 0)] [] rfl ?_ ?_
    ·refine sAi rfl ?_
     exact s0 (Wk.eq rfl rfl rfl rfl)
    refine LH.ret ?_
    refine thenR ?_
    refine thenR ?_
    obtain rfl := Option.some.inj h
    exact retE (congrArg Array.toList Try.results52) (lrT rfl (lr0 ⟨memN mN, rfl, prK rfl, Sub.rfl⟩))
   replace h := iteF h hc4
   refine LH.skip ?_
   refine thenN ?_
   refine LH.seqT [(4, .I (-1))] [] rfl ?_ ?_
   ·refine sAi rfl ?_
    exact s0 (Wk.eq rfl rfl rfl rfl)
   refine LH.ret ?_
   refine thenR ?_
   obtain rfl := Option.some.inj h
   exact retE (congrArg Array.toList Try.results52) (lrT rfl (lr0 ⟨memN mN, rfl, prK rfl, Sub.rfl⟩))
  replace h := iteF h hc3
  refine LH.skip ?_
  refine thenN ?_
  refine LH.wk (Wk.eq (el := [(0, .I p0), (1, .I p1), (6, .bool r2)]) (ml := []) rfl rfl rfl rfl) ?_
  refine LH.seq ?_
  refine LH.seqT [(0, .I p0), (1, .I p1), (13, .bool r2)] [] rfl ?_ ?_
  ·refine sMb rfl ?_
   exact s0 (Wk.eq rfl rfl rfl rfl)
  refine LH.cond (t := r2) rfl (fun hc5 => ?_) (fun hc5 => ?_)
  ·replace h := iteT h hc5
   refine LH.seqT [(4, .I 1)] [] rfl ?_ ?_
   ·refine sAi rfl ?_
    exact s0 (Wk.eq rfl rfl rfl rfl)
   refine LH.ret ?_
   refine thenR ?_
   obtain rfl := Option.some.inj h
   exact retE (congrArg Array.toList Try.results52) (lrT rfl (lr0 ⟨memN mN, rfl, prK rfl, Sub.rfl⟩))
  replace h := iteF h hc5
  refine LH.skip ?_
  refine thenN ?_
  refine LH.wk (Wk.eq (el := [(0, .I p0), (1, .I p1)]) (ml := []) rfl rfl rfl rfl) ?_
  refine LH.seq ?_
  refine LH.seqT [(0, .I p0), (1, .I p1), (16, .bool (decide (p0 < p1)))] [] rfl ?_ ?_
  ·refine sMi rfl ?_
   refine sMi rfl ?_
   refine sN (oLt rfl rfl ?_)
   exact s0 (Wk.eq rfl rfl rfl rfl)
  refine LH.cond (t := (decide (p0 < p1))) rfl (fun hc6 => ?_) (fun hc6 => ?_)
  ·replace h := iteT h hc6
   refine LH.seqT [(4, .I (-1))] [] rfl ?_ ?_
   ·refine sAi rfl ?_
    exact s0 (Wk.eq rfl rfl rfl rfl)
   refine LH.ret ?_
   refine thenR ?_
   obtain rfl := Option.some.inj h
   exact retE (congrArg Array.toList Try.results52) (lrT rfl (lr0 ⟨memN mN, rfl, prK rfl, Sub.rfl⟩))
  replace h := iteF h hc6
  refine LH.skip ?_
  refine thenN ?_
  refine LH.wk (Wk.eq (el := [(0, .I p0), (1, .I p1)]) (ml := []) rfl rfl rfl rfl) ?_
  refine LH.seq ?_
  refine LH.seqT [(19, .bool (decide (p0 > p1)))] [] rfl ?_ ?_
  ·refine sMi rfl ?_
   refine sMi rfl ?_
   refine sN (oGt rfl rfl ?_)
   exact s0 (Wk.eq rfl rfl rfl rfl)
  refine LH.cond (t := (decide (p0 > p1))) rfl (fun hc7 => ?_) (fun hc7 => ?_)
  ·replace h := iteT h hc7
   refine LH.seqT [(4, .I 1)] [] rfl ?_ ?_
   ·refine sAi rfl ?_
    exact s0 (Wk.eq rfl rfl rfl rfl)
   refine LH.ret ?_
   refine thenR ?_
   obtain rfl := Option.some.inj h
   exact retE (congrArg Array.toList Try.results52) (lrT rfl (lr0 ⟨memN mN, rfl, prK rfl, Sub.rfl⟩))
  replace h := iteF h hc7
  refine LH.skip ?_
  refine thenN ?_
  refine LH.seqT [(4, .I 0)] [] rfl ?_ ?_
  ·refine sAi rfl ?_
   exact s0 (Wk.eq rfl rfl rfl rfl)
  refine LH.ret ?_
  obtain rfl := Option.some.inj h
  exact retE (congrArg Array.toList Try.results52) (lrT rfl (lr0 ⟨memN mN, rfl, prK rfl, Sub.rfl⟩))

theorem cmp_Or_int_ok {F : Nat} {p0 : List Int} {r : Int} (h : cmp_Or_int F p0 = some r) : LCall Try.prog 90 [.L p0] (Mem.of []) (.I r) (Mem.of []) := by
  unfold cmp_Or_int at h
  refine bodyT Try.func90 rfl (by rw [Try.ntmps90]; exact Nat.le_of_ble_eq_true rfl) ?_
  refine LH.wk (Wk.eq (el := [(0, .L p0)]) (ml := []) rfl rfl rfl rfl) ?_
  refine LH.seqT [(0, .L p0)] [] rfl ?_ ?_
  ·refine sAi rfl ?_
   exact s0 (Wk.eq rfl rfl rfl rfl)
  refine LH.seqT [(0, .L p0), (3, .I 0)] [] rfl ?_ ?_
  ·refine sAi rfl ?_
   exact s0 (Wk.eq rfl rfl rfl rfl)
  refine LH.seq ?_
  refine LH.seqT [(3, .I 0), (6, .L p0), (7, .I (p0.length : Int)), (8, .I 0)] [] rfl ?_ ?_
  ·refine sMl rfl ?_
   refine sN (oLnL (f := LV.I) te22 rfl ?_)
   refine sMi rfl ?_
   exact s0 (Wk.eq rfl rfl rfl rfl)
  refine LH.block ?_
  refine LH.loop (fun n e m => ∃ (n1 : Int), cmp_Or_int_L1 p0 n n1 = some r ∧ e = Env.of [(3, .I 0), (6, .L p0), (7, .I (p0.length : Int)), (8, .I n1)] ∧ m = Mem.of []) F ⟨0, h, rfl, rfl⟩ ?_
  clear h
  rintro n e m ⟨n1, h, rfl, rfl⟩
  rcases n with _ | n
  · cases (show Option.none = some _ from h)
  obtain ⟨rec1, hrec1⟩ : ∃ f, f = cmp_Or_int_L1 p0 n := ⟨_, rfl⟩
  replace h : cmp_Or_int_L1_B p0 rec1 n1 = some r := hrec1 ▸ h
  unfold cmp_Or_int_L1_B at h
  refine LH.seqT [(3, .I 0), (6, .L p0), (7, .I (p0.length : Int)), (8, .I n1), (9, .bool (decide (n1 < (p0.length : Int))))] [] rfl ?_ ?_
  ·refine sN (oLt rfl rfl ?_)
   exact s0 (Wk.eq rfl rfl rfl rfl)
  refine LH.seq ?_
  refine LH.cond (t := (decide (n1 < (p0.length : Int)))) rfl (fun hc2 => ?_) (fun hc2 => ?_)
  ·replace h := iteT h hc2
   refine LH.skip ?_
   refine thenN ?_
   refine LH.wk (Wk.eq (el := [(3, .I 0), (6, .L p0), (7, .I (p0.length : Int)), (8, .I n1)]) (ml := []) rfl rfl rfl rfl) ?_
   refine LH.seq ?_
   refine LH.block ?_
   obtain ⟨x3, hx3, h⟩ := bindS h
   refine LH.seqT [(3, .I 0), (5, .I x3), (6, .L p0), (7, .I (p0.length : Int)), (8, .I n1)] [] rfl ?_ ?_
   ·refine sN (oIx (f := LV.I) te22 tk3 ts3 rfl rfl okI hx3 rfl ?_)
    refine sN (oLd rfl tk3 ta3 ?_)
    refine sAi rfl ?_
    exact s0 (Wk.eq rfl rfl rfl rfl)
   refine LH.seqT [(3, .I 0), (5, .I x3), (6, .L p0), (7, .I (p0.length : Int)), (8, .I n1), (14, .bool (x3 != 0))] [] rfl ?_ ?_
   ·refine sMi rfl ?_
    refine sMi rfl ?_
    refine sN (oNe rfl rfl ?_)
    exact s0 (Wk.eq rfl rfl rfl rfl)
   refine LH.cond (t := (x3 != 0)) rfl (fun hc4 => ?_) (fun hc4 => ?_)
   ·replace h := iteT h hc4
    refine LH.seqT [(2, .I x3)] [] rfl ?_ ?_
    ·refine sMi rfl ?_
     refine sAi rfl ?_
     exact s0 (Wk.eq rfl rfl rfl rfl)
    refine LH.ret ?_
    refine blockR ?_
    refine thenR ?_
    refine roundR ?_
    refine blockR ?_
    refine thenR ?_
    obtain rfl := Option.some.inj h
    exact retE (congrArg Array.toList Try.results90) (lrT rfl (lr0 ⟨memN mN, rfl, prK rfl, Sub.rfl⟩))
   replace h := iteF h hc4
   refine LH.skip ?_
   refine blockN ?_
   refine thenN ?_
   refine LH.loneT [(3, .I 0), (6, .L p0), (7, .I (p0.length : Int)), (8, .I (i64 (n1 + 1)))] [] rfl ?_ ?_
   ·refine sN (oAdd rfl rfl ?_)
    refine sMi rfl ?_
    exact s0 (Wk.eq rfl rfl rfl rfl)
   exact roundI ⟨(i64 (n1 + 1)), hrec1 ▸ h, rfl, rfl⟩ (Wk.eq rfl rfl rfl rfl)
  replace h := iteF h hc2
  refine LH.exit ?_
  refine thenX ?_
  refine roundX ?_
  refine blockH ?_
  refine thenN ?_
  refine LH.seqT [(2, .I 0)] [] rfl ?_ ?_
  ·refine sMi rfl ?_
   refine sAi rfl ?_
   exact s0 (Wk.eq rfl rfl rfl rfl)
  refine LH.ret ?_
  obtain rfl := Option.some.inj h
  exact retE (congrArg Array.toList Try.results90) (lrT rfl (lr0 ⟨memN mN, rfl, prK rfl, Sub.rfl⟩))

theorem stamp_compareIdentity_ok {F : Nat} {p0 : GStamp} {p1 : GStamp} {r : Int} (h : stamp_compareIdentity F p0 p1 = some r) : LCall Try.prog 91 [.agg [.I p0.Time, .I p0.Source, .I p0.Seq], .agg [.I p1.Time, .I p1.Source, .I p1.Seq]] (Mem.of []) (.I r) (Mem.of []) := by
  unfold stamp_compareIdentity at h
  refine bodyT Try.func91 rfl (by rw [Try.ntmps91]; exact Nat.le_of_ble_eq_true rfl) ?_
  refine LH.wk (Wk.eq (el := [(0, .agg [.I p0.Time, .I p0.Source, .I p0.Seq]), (1, .agg [.I p1.Time, .I p1.Source, .I p1.Seq])]) (ml := []) rfl rfl rfl rfl) ?_
  refine LH.seqT [(2, .sptr [.I p0.Time, .I p0.Source, .I p0.Seq]), (3, .sptr [.I p1.Time, .I p1.Source, .I p1.Seq])] [] rfl ?_ ?_
  ·refine sB (oBxR rfl rfl rfl rfl ?_)
   refine sB (oBxR rfl rfl rfl rfl ?_)
   refine sAi rfl ?_
   exact s0 (Wk.eq rfl rfl rfl rfl)
  obtain ⟨r1, hr1, h⟩ := bindS h
  obtain ⟨r2, hr2, h⟩ := bindS h
  obtain ⟨r3, hr3, h⟩ := bindS h
  refine LH.seqJM mixed [] [0, 0, 0, 0, 0, 0, 0, 0, 0, 0, 0, 0, 0] [(4, .I r3)] [] rfl rfl (by kernel_rfl) ?_ ?_
  ·refine mN0 (oFaS tf32_1 tk3 ts3 rfl rfl rfl ⟨rfl, ?_⟩)
   refine mN0 (oLd rfl tk3 ta3 ⟨rfl, ?_⟩)
   refine mN0 (oFaS tf32_1 tk3 ts3 rfl rfl rfl ⟨rfl, ?_⟩)
   refine mN0 (oLd rfl tk3 ta3 ⟨rfl, ?_⟩)
   refine mN0 (oCP (args := [.I p0.Source, .I p1.Source]) rfl isF52 rfl (sbR (sbR sbN)) (cmp_Compare_int_ok hr1) rfl ⟨rfl, ?_⟩)
   refine mN0 (oFaS tf32_2 tk3 ts3 rfl rfl rfl ⟨rfl, ?_⟩)
   refine mN0 (oLd rfl tk3 ta3 ⟨rfl, ?_⟩)
   refine mN0 (oFaS tf32_2 tk3 ts3 rfl rfl rfl ⟨rfl, ?_⟩)
   refine mN0 (oLd rfl tk3 ta3 ⟨rfl, ?_⟩)
   refine mN0 (oCP (args := [.I p0.Seq, .I p1.Seq]) rfl isF52 rfl (sbR (sbR sbN)) (cmp_Compare_int_ok hr2) rfl ⟨rfl, ?_⟩)
   refine mN0 (oBS (f := LV.I) (ys := [r1, r2]) te22 tr3 ts3 rfl rfl rfl okI ⟨rfl, ?_⟩)
   refine mN0 (oCP (args := [.L [r1, r2]]) rfl isF90 rfl (sbR sbN) (cmp_Or_int_ok hr3) rfl ⟨rfl, ?_⟩)
   refine mN0 (oA (v := (.int _ _)) rfl ⟨rfl, ?_⟩)
   exact m0 (Wk.eq rfl rfl rfl rfl)
  refine LH.ret ?_
  obtain rfl := Option.some.inj h
  exact retE (congrArg Array.toList Try.results91) (lrT rfl (lr0 ⟨memN mN, rfl, prK rfl, Sub.rfl⟩))

theorem stamp_groups_1_ok {F : Nat} {p0 : Int} {p1 : Int} {c0 : List GStamp} {r : Int} (h : stamp_groups_1 F p0 p1 c0 = some r) : LCall Try.prog 89 [.I p0, .I p1, .sptr [.lst 3 (List.map GStamp.lv c0)]] (Mem.of []) (.I r) (Mem.of []) := by
  unfold stamp_groups_1 at h
  refine bodyT Try.func89 rfl (by rw [Try.ntmps89]; exact Nat.le_of_ble_eq_true rfl) ?_
  refine LH.wk (Wk.eq (el := [(0, .I p0), (1, .I p1), (2, .sptr [.lst 3 (List.map GStamp.lv c0)])]) (ml := []) rfl rfl rfl rfl) ?_
  refine LH.seqT [(0, .I p0), (1, .I p1), (2, .sptr [.lst 3 (List.map GStamp.lv c0)])] [] rfl ?_ ?_
  ·refine sAi rfl ?_
   exact s0 (Wk.eq rfl rfl rfl rfl)
  obtain ⟨x1, hx1, h⟩ := bindS h
  obtain ⟨x2, hx2, h⟩ := bindS h
  obtain ⟨r3, hr3, h⟩ := bindS h
  obtain ⟨r4, hr4, h⟩ := bindS h
  obtain ⟨r5, hr5, h⟩ := bindS h
  refine LH.seqJM mixed [] [0, 0, 0, 0, 0, 0, 0, 0, 0, 0, 0, 0, 0, 0, 0] [(5, .I r5)] [] rfl rfl (by kernel_rfl) ?_ ?_
  ·refine mN0 (oLd rfl tk69 ta69 ⟨rfl, ?_⟩)
   refine mN0 (oM (v := (.int _ _)) rfl ⟨rfl, ?_⟩)
   refine mN0 (oIx (f := GStamp.lv) te69 tk32 ts32 rfl rfl GStamp.ok hx1 rfl ⟨rfl, ?_⟩)
   refine mN0 (oLdA rfl tk32 ta32 ts32 rfl rfl ⟨rfl, ?_⟩)
   refine mN0 (oLd rfl tk69 ta69 ⟨rfl, ?_⟩)
   refine mN0 (oM (v := (.int _ _)) rfl ⟨rfl, ?_⟩)
   refine mN0 (oIx (f := GStamp.lv) te69 tk32 ts32 rfl rfl GStamp.ok hx2 rfl ⟨rfl, ?_⟩)
   refine mN0 (oLdA rfl tk32 ta32 ts32 rfl rfl ⟨rfl, ?_⟩)
   refine mN0 (oCP (args := [.agg [.I x1.Time, .I x1.Source, .I x1.Seq], .agg [.I x2.Time, .I x2.Source, .I x2.Seq]]) rfl isF91 rfl (sbR (sbR sbN)) (stamp_compareIdentity_ok hr3) rfl ⟨rfl, ?_⟩)
   refine mN0 (oM (v := (.int _ _)) rfl ⟨rfl, ?_⟩)
   refine mN0 (oM (v := (.int _ _)) rfl ⟨rfl, ?_⟩)
   refine mN0 (oCP (args := [.I p0, .I p1]) rfl isF52 rfl (sbR (sbR sbN)) (cmp_Compare_int_ok hr4) rfl ⟨rfl, ?_⟩)
   refine mN0 (oBS (f := LV.I) (ys := [r3, r4]) te22 tr3 ts3 rfl rfl rfl okI ⟨rfl, ?_⟩)
   refine mN0 (oCP (args := [.L [r3, r4]]) rfl isF90 rfl (sbR sbN) (cmp_Or_int_ok hr5) rfl ⟨rfl, ?_⟩)
   refine mN0 (oA (v := (.int _ _)) rfl ⟨rfl, ?_⟩)
   exact m0 (Wk.eq rfl rfl rfl rfl)
  refine LH.ret ?_
  obtain rfl := Option.some.inj h
  exact retE (congrArg Array.toList Try.results89) (lrT rfl (lr0 ⟨memN mN, rfl, prK rfl, Sub.rfl⟩))

theorem stamp_groups_ok {F : Nat} {p0 : List GStamp} {p1 : List Int} {r : List stamp_group} (h : stamp_groups F p0 p1 = some r) : LCall Try.prog 66 [.lst 3 (List.map GStamp.lv p0), .L p1] (Mem.of []) (.lst 2 (List.map stamp_group.lv r)) (Mem.of []) := by
  unfold stamp_groups at h
  refine bodyT Try.func66 rfl (by rw [Try.ntmps66]; exact Nat.le_of_ble_eq_true rfl) ?_
  refine LH.wk (Wk.eq (el := [(0, .lst 3 (List.map GStamp.lv p0)), (1, .L p1)]) (ml := []) rfl rfl rfl rfl) ?_
  refine LH.seqT [(1, .L p1), (2, .sptr [.lst 3 (List.map GStamp.lv p0)])] [] rfl ?_ ?_
  ·refine sB (oBxR rfl rfl rfl rfl ?_)
   refine sAn rfl ?_
   exact s0 (Wk.eq rfl rfl rfl rfl)
  refine LH.seqT [(1, .L p1), (2, .sptr [.lst 3 (List.map GStamp.lv p0)]), (5, .nil)] [] rfl ?_ ?_
  ·refine sAn rfl ?_
   exact s0 (Wk.eq rfl rfl rfl rfl)
  refine LH.seq ?_
  refine LH.seqT [(1, .L p1), (2, .sptr [.lst 3 (List.map GStamp.lv p0)]), (5, .nil), (13, .lst 3 (List.map GStamp.lv p0)), (14, .I (p0.length : Int)), (15, .I 0)] [] rfl ?_ ?_
  ·refine sN (oLd rfl tk69 ta69 ?_)
   refine sN (oLnL (f := GStamp.lv) te69 rfl ?_)
   refine sMi rfl ?_
   exact s0 (Wk.eq rfl rfl rfl rfl)
  refine LH.block ?_
  refine LH.wk ((Wk.trans (Wk.eq (el := [(1, .L p1), (2, .sptr [.lst 3 (List.map GStamp.lv p0)]), (5, .nil), (13, .lst 3 (List.map GStamp.lv p0)), (14, .I (p0.length : Int)), (15, .I 0)]) (ml := []) rfl rfl rfl rfl) (Wk.trans (Wk.eq (el := [(1, .L p1), (2, .sptr [.lst 3 (List.map GStamp.lv p0)]), (5, .nil), (13, .lst 3 (List.map GStamp.lv p0)), (14, .I (p0.length : Int)), (15, .I 0)]) (ml := []) rfl rfl rfl rfl) (Wk.trans (Wk.ownL (el' := [(1, .L p1), (2, .sptr [.lst 3 (List.map GStamp.lv p0)]), (5, .arr 125 (List.length ([] : List Int))), (13, .lst 3 (List.map GStamp.lv p0)), (14, .I (p0.length : Int)), (15, .I 0)]) 125 3 1 rfl rfl (wK (wK (wO (wK (wK (wK wN))))))) (Wk.eq (el := [(1, .L p1), (2, .sptr [.lst 3 (List.map GStamp.lv p0)]), (5, .arr 125 (List.length ([] : List Int))), (13, .lst 3 (List.map GStamp.lv p0)), (14, .I (p0.length : Int)), (15, .I 0)]) (ml := [(125, .arr 3 1 (List.map LV.I ([] : List Int)))]) rfl rfl rfl rfl))))) ?_
  refine LH.loop (fun n e m => ∃ (n1 : Int) (l2 : List Int), stamp_groups_L1 F p0 p1 n n1 l2 = some r ∧ e = Env.of [(1, .L p1), (2, .sptr [.lst 3 (List.map GStamp.lv p0)]), (5, .arr 125 (List.length l2)), (13, .lst 3 (List.map GStamp.lv p0)), (14, .I (p0.length : Int)), (15, .I n1)] ∧ m = Mem.of [(125, .arr 3 1 (List.map LV.I l2))]) F ⟨0, ([] : List Int), h, rfl, rfl⟩ ?_
  clear h
  rintro n e m ⟨n1, l2, h, rfl, rfl⟩
  rcases n with _ | n
  · cases (show Option.none = some _ from h)
  obtain ⟨rec1, hrec1⟩ : ∃ f, f = stamp_groups_L1 F p0 p1 n := ⟨_, rfl⟩
  replace h : stamp_groups_L1_B F p0 p1 rec1 n1 l2 = some r := hrec1 ▸ h
  unfold stamp_groups_L1_B at h
  refine LH.seqT [(1, .L p1), (2, .sptr [.lst 3 (List.map GStamp.lv p0)]), (5, .arr 125 (List.length l2)), (13, .lst 3 (List.map GStamp.lv p0)), (14, .I (p0.length : Int)), (15, .I n1), (16, .bool (decide (n1 < (p0.length : Int))))] [(125, .arr 3 1 (List.map LV.I l2))] rfl ?_ ?_
  ·refine sN (oLt rfl rfl ?_)
   exact s0 (Wk.eq rfl rfl rfl rfl)
  refine LH.seq ?_
  refine LH.cond (t := (decide (n1 < (p0.length : Int)))) rfl (fun hc3 => ?_) (fun hc3 => ?_)
  ·replace h := iteT h hc3
   refine LH.skip ?_
   refine thenN ?_
   refine LH.wk (Wk.eq (el := [(1, .L p1), (2, .sptr [.lst 3 (List.map GStamp.lv p0)]), (5, .arr 125 (List.length l2)), (13, .lst 3 (List.map GStamp.lv p0)), (14, .I (p0.length : Int)), (15, .I n1)]) (ml := [(125, .arr 3 1 (List.map LV.I l2))]) rfl rfl rfl rfl) ?_
   refine LH.seq ?_
   refine LH.block ?_
   obtain ⟨x4, hx4, h⟩ := bindS h
   refine LH.seqT [(1, .L p1), (2, .sptr [.lst 3 (List.map GStamp.lv p0)]), (5, .arr 125 (List.length l2)), (6, .I n1), (7, .sptr [.I x4.Time, .I x4.Source, .I x4.Seq]), (13, .lst 3 (List.map GStamp.lv p0)), (14, .I (p0.length : Int)), (15, .I n1)] [(125, .arr 3 1 (List.map LV.I l2))] rfl ?_ ?_
   ·refine sMi rfl ?_
    refine sN (oIx (f := GStamp.lv) te69 tk32 ts32 rfl rfl GStamp.ok hx4 rfl ?_)
    refine sN (oLdA rfl tk32 ta32 ts32 rfl rfl ?_)
    refine sN (oAl (id := 107) rfl tz32 rfl rfl ?_)
    refine sAi rfl ?_
    refine s_ (oSt rfl rfl rfl tk32 ts32 rfl rfl rfl ?_)
    exact s0 ((Wk.trans (Wk.eq (el := [(1, .L p1), (2, .sptr [.lst 3 (List.map GStamp.lv p0)]), (5, .arr 125 (List.length l2)), (6, .I n1), (7, .ptr 107 0), (13, .lst 3 (List.map GStamp.lv p0)), (14, .I (p0.length : Int)), (15, .I n1)]) (ml := [(107, .box [.I x4.Time, .I x4.Source, .I x4.Seq]), (125, .arr 3 1 (List.map LV.I l2))]) rfl rfl rfl rfl) (Wk.trans (Wk.frzB 107 [.I x4.Time, .I x4.Source, .I x4.Seq] rfl rfl rfl (prN rfl)) (Wk.eq rfl rfl rfl rfl))))
   obtain ⟨r5, hr5, h⟩ := bindS h
   refine LH.seqT [(1, .L p1), (2, .sptr [.lst 3 (List.map GStamp.lv p0)]), (5, .arr 125 (List.length l2)), (6, .I n1), (13, .lst 3 (List.map GStamp.lv p0)), (14, .I (p0.length : Int)), (15, .I n1), (21, .bool r5)] [(125, .arr 3 1 (List.map LV.I l2))] rfl ?_ ?_
   ·refine sN (oLdA rfl tk32 ta32 ts32 rfl rfl ?_)
    refine sN (oCP (args := [.agg [.I x4.Time, .I x4.Source, .I x4.Seq]]) rfl isF88 rfl (sbR sbN) (stamp_Valid_ok hr5) rfl ?_)
    exact s0 (Wk.eq rfl rfl rfl rfl)
   refine LH.cond (t := r5) rfl (fun hc6 => ?_) (fun hc6 => ?_)
   ·replace h := iteT h hc6
    obtain ⟨v7, hv7, h⟩ := bindS h
    refine LH.loneT [(1, .L p1), (2, .sptr [.lst 3 (List.map GStamp.lv p0)]), (5, .arr 125 (List.length v7)), (13, .lst 3 (List.map GStamp.lv p0)), (14, .I (p0.length : Int)), (15, .I n1)] [(125, .arr 3 1 (List.map LV.I v7))] rfl ?_ ?_
    ·refine sMa rfl ?_
     refine sMi rfl ?_
     refine sN (oBS (f := LV.I) (ys := [n1]) te22 tr3 ts3 rfl rfl rfl okI ?_)
     refine sN (oAp (f := LV.I) te22 tr3 ts3 rfl rfl (prN rfl) rfl hv7 ?_)
     refine sAa rfl ?_
     exact s0 (Wk.eq rfl rfl rfl rfl)
    refine blockN ?_
    refine thenN ?_
    refine LH.loneT [(1, .L p1), (2, .sptr [.lst 3 (List.map GStamp.lv p0)]), (5, .arr 125 (List.length v7)), (13, .lst 3 (List.map GStamp.lv p0)), (14, .I (p0.length : Int)), (15, .I (i64 (n1 + 1)))] [(125, .arr 3 1 (List.map LV.I v7))] rfl ?_ ?_
    ·refine sN (oAdd rfl rfl ?_)
     refine sMi rfl ?_
     exact s0 (Wk.eq rfl rfl rfl rfl)
    exact roundI ⟨(i64 (n1 + 1)), v7, hrec1 ▸ h, rfl, rfl⟩ (Wk.eq rfl rfl rfl rfl)
   replace h := iteF h hc6
   refine LH.skip ?_
   refine blockN ?_
   refine thenN ?_
   refine LH.loneT [(1, .L p1), (2, .sptr [.lst 3 (List.map GStamp.lv p0)]), (5, .arr 125 (List.length l2)), (13, .lst 3 (List.map GStamp.lv p0)), (14, .I (p0.length : Int)), (15, .I (i64 (n1 + 1)))] [(125, .arr 3 1 (List.map LV.I l2))] rfl ?_ ?_
   ·refine sN (oAdd rfl rfl ?_)
    refine sMi rfl ?_
    exact s0 (Wk.eq rfl rfl rfl rfl)
   exact roundI ⟨(i64 (n1 + 1)), l2, hrec1 ▸ h, rfl, rfl⟩ (Wk.eq rfl rfl rfl rfl)
  replace h := iteF h hc3
  refine LH.exit ?_
  refine thenX ?_
  refine roundX ?_
  refine blockH ?_
  refine thenN ?_
  obtain ⟨l8, hl8, h⟩ := bindS h
  refine LH.seqT [(1, .L p1), (2, .sptr [.lst 3 (List.map GStamp.lv p0)]), (5, .L l8)] [] rfl ?_ ?_
  ·refine sMa rfl ?_
   refine sN (oMF (vs := [.sptr [.lst 3 (List.map GStamp.lv p0)]]) rfl ?_)
   refine sN (oCM (args := [.arr 125 (List.length l2), .fn 89 [.sptr [.lst 3 (List.map GStamp.lv p0)]]]) (ml := [(125, .arr 3 1 (List.map LV.I l2))]) (ml' := [(125, .arr 3 1 (List.map LV.I l8))]) rfl isF67 rfl (sbR (sbR sbN)) (sortI_ok Try.sortL rfl isF89 rfl (fun _ _ _ h => stamp_groups_1_ok h) 125 3 hl8) (mC rfl mN) (newI rfl newN) rfl ?_)
   exact s0 ((Wk.trans (Wk.to (el := [(1, .L p1), (2, .sptr [.lst 3 (List.map GStamp.lv p0)]), (5, .arr 125 (List.length l8))]) (ml := [(125, .arr 3 1 (List.map LV.I l8))]) (eC rfl (eC rfl (eC (congrArg (LV.arr 125) (sortF_len hl8)) eN))) ⟨rfl, trivial⟩ rfl (prK rfl)) (Wk.trans (Wk.frzL (f := LV.I) (el' := [(1, .L p1), (2, .sptr [.lst 3 (List.map GStamp.lv p0)]), (5, .L l8)]) 125 3 1 l8 rfl rfl (prN rfl) (fK rfl (fK rfl (fZ fN)))) (Wk.eq rfl rfl rfl rfl))))
  refine LH.seqT [(1, .L p1), (2, .sptr [.lst 3 (List.map GStamp.lv p0)]), (5, .L l8), (8, .nil)] [] rfl ?_ ?_
  ·refine sAn rfl ?_
   exact s0 (Wk.eq rfl rfl rfl rfl)
  refine LH.seq ?_
  refine LH.seqT [(1, .L p1), (2, .sptr [.lst 3 (List.map GStamp.lv p0)]), (8, .nil), (30, .L l8), (31, .I (l8.length : Int)), (32, .I 0)] [] rfl ?_ ?_
  ·refine sMl rfl ?_
   refine sN (oLnL (f := LV.I) te22 rfl ?_)
   refine sMi rfl ?_
   exact s0 (Wk.eq rfl rfl rfl rfl)
  refine LH.block ?_
  refine LH.wk ((Wk.trans (Wk.eq (el := [(1, .L p1), (2, .sptr [.lst 3 (List.map GStamp.lv p0)]), (8, .nil), (30, .L l8), (31, .I (l8.length : Int)), (32, .I 0)]) (ml := []) rfl rfl rfl rfl) (Wk.trans (Wk.eq (el := [(1, .L p1), (2, .sptr [.lst 3 (List.map GStamp.lv p0)]), (8, .nil), (30, .L l8), (31, .I (l8.length : Int)), (32, .I 0)]) (ml := []) rfl rfl rfl rfl) (Wk.trans (Wk.ownL (el' := [(1, .L p1), (2, .sptr [.lst 3 (List.map GStamp.lv p0)]), (8, .arr 161 (List.length ([] : List stamp_group))), (30, .L l8), (31, .I (l8.length : Int)), (32, .I 0)]) 161 99 2 rfl rfl (wK (wK (wO (wK (wK (wK wN))))))) (Wk.eq (el := [(1, .L p1), (2, .sptr [.lst 3 (List.map GStamp.lv p0)]), (8, .arr 161 (List.length ([] : List stamp_group))), (30, .L l8), (31, .I (l8.length : Int)), (32, .I 0)]) (ml := [(161, .arr 99 2 (List.map stamp_group.lv ([] : List stamp_group)))]) rfl rfl rfl rfl))))) ?_
  refine LH.loop (fun n e m => ∃ (n9 : Int) (l10 : List stamp_group), stamp_groups_L2 F p0 p1 l8 n n9 l10 = some r ∧ e = Env.of [(1, .L p1), (2, .sptr [.lst 3 (List.map GStamp.lv p0)]), (8, .arr 161 (List.length l10)), (30, .L l8), (31, .I (l8.length : Int)), (32, .I n9)] ∧ m = Mem.of [(161, .arr 99 2 (List.map stamp_group.lv l10))]) F ⟨0, ([] : List stamp_group), h, rfl, rfl⟩ ?_
  clear h
  rintro n e m ⟨n9, l10, h, rfl, rfl⟩
  rcases n with _ | n
  · cases (show Option.none = some _ from h)
  obtain ⟨rec2, hrec2⟩ : ∃ f, f = stamp_groups_L2 F p0 p1 l8 n := ⟨_, rfl⟩
  replace h : stamp_groups_L2_B F p0 p1 l8 rec2 n9 l10 = some r := hrec2 ▸ h
  unfold stamp_groups_L2_B at h
  refine LH.seqT [(1, .L p1), (2, .sptr [.lst 3 (List.map GStamp.lv p0)]), (8, .arr 161 (List.length l10)), (30, .L l8), (31, .I (l8.length : Int)), (32, .I n9), (33, .bool (decide (n9 < (l8.length : Int))))] [(161, .arr 99 2 (List.map stamp_group.lv l10))] rfl ?_ ?_
  ·refine sN (oLt rfl rfl ?_)
   exact s0 (Wk.eq rfl rfl rfl rfl)
  refine LH.seq ?_
  refine LH.cond (t := (decide (n9 < (l8.length : Int)))) rfl (fun hc11 => ?_) (fun hc11 => ?_)
  ·replace h := iteT h hc11
   refine LH.skip ?_
   refine thenN ?_
   refine LH.wk (Wk.eq (el := [(1, .L p1), (2, .sptr [.lst 3 (List.map GStamp.lv p0)]), (8, .arr 161 (List.length l10)), (30, .L l8), (31, .I (l8.length : Int)), (32, .I n9)]) (ml := [(161, .arr 99 2 (List.map stamp_group.lv l10))]) rfl rfl rfl rfl) ?_
   refine LH.seq ?_
   refine LH.block ?_
   obtain ⟨x12, hx12, h⟩ := bindS h
   refine LH.seqT [(1, .L p1), (2, .sptr [.lst 3 (List.map GStamp.lv p0)]), (8, .arr 161 (List.length l10)), (10, .I x12), (30, .L l8), (31, .I (l8.length : Int)), (32, .I n9)] [(161, .arr 99 2 (List.map stamp_group.lv l10))] rfl ?_ ?_
   ·refine sN (oIx (f := LV.I) te22 tk3 ts3 rfl rfl okI hx12 rfl ?_)
    refine sN (oLd rfl tk3 ta3 ?_)
    refine sAi rfl ?_
    exact s0 (Wk.eq rfl rfl rfl rfl)
   refine LH.seqT [(1, .L p1), (2, .sptr [.lst 3 (List.map GStamp.lv p0)]), (8, .arr 161 (List.length l10)), (10, .I x12), (11, .I (i64 ((l10.length : Int) - 1))), (30, .L l8), (31, .I (l8.length : Int)), (32, .I n9)] [(161, .arr 99 2 (List.map stamp_group.lv l10))] rfl ?_ ?_
   ·refine sMa rfl ?_
    refine sN (oLnA (f := stamp_group.lv) te96 rfl rfl ?_)
    refine sN (oSub rfl rfl ?_)
    refine sAi rfl ?_
    exact s0 (Wk.eq rfl rfl rfl rfl)
   refine LH.seq ?_
   obtain ⟨w14, hv, h⟩ := bindS h
   refine LH.seqJM mixed [] [0, 0, 0, 0, 0, 0, 1, 1, 1, 0, 0, 0, 0, 0, 0, 0, 0, 0] [(1, .L p1), (2, .sptr [.lst 3 (List.map GStamp.lv p0)]), (8, .arr 161 (List.length l10)), (10, .I x12), (11, .I (i64 ((l10.length : Int) - 1))), (30, .L l8), (31, .I (l8.length : Int)), (32, .I n9), (56, .bool w14)] [(161, .arr 99 2 (List.map stamp_group.lv l10))] rfl rfl (by kernel_rfl) ?_ ?_
   ·refine mN0 (oM (v := (.int _ _)) rfl ⟨rfl, ?_⟩)
    refine mN0 (oLt rfl rfl ⟨rfl, ?_⟩)
    refine mN0 (oM (v := (.bool _)) rfl ⟨rfl, ?_⟩)
    by_cases hb15 : (decide ((i64 ((l10.length : Int) - 1)) < 0)) = true
    ·replace hv := iteT hv hb15
     refine mF rfl rfl hb15 ?_
     refine mF rfl rfl hb15 ?_
     refine mF rfl rfl hb15 ?_
     refine mF rfl rfl hb15 ?_
     refine mF rfl rfl hb15 ?_
     refine mF rfl rfl hb15 ?_
     refine mF rfl rfl hb15 ?_
     refine mF rfl rfl hb15 ?_
     refine mF rfl rfl hb15 ?_
     refine mF rfl rfl hb15 ?_
     refine mF rfl rfl hb15 ?_
     refine mF rfl rfl hb15 ?_
     refine mF rfl rfl hb15 ?_
     refine mF rfl rfl hb15 ?_
     refine mN0 (oPkT (congrArg LV.bool hb15) (v := (.bool _)) rfl ⟨rfl, ?_⟩)
     obtain rfl := Option.some.inj hv
     exact m0 (Wk.eq rfl rfl rfl rfl)
    ·replace hb15 := bF hb15
     replace hv := iteF hv hb15
     refine mT rfl (congrArg LV.bool hb15) (mN0 (oLd rfl tk69 ta69 ⟨rfl, ?_⟩))
     refine mT rfl (congrArg LV.bool hb15) (mN0 (oM (v := (.arr _ _)) rfl ⟨rfl, ?_⟩))
     refine mT rfl (congrArg LV.bool hb15) (mN0 (oM (v := (.int _ _)) rfl ⟨rfl, ?_⟩))
     obtain ⟨x16, hx16, hv⟩ := bindS hv
     refine mT rfl (congrArg LV.bool hb15) (mN1 (oIxA (f := stamp_group.lv) te96 tk99 ts99 rfl rfl rfl hx16 ⟨rfl, ?_⟩))
     refine mT rfl (congrArg LV.bool hb15) (mN1 (oFaE (f := stamp_group.lv) tf99_0 tk3 ts3 rfl rfl rfl ⟨rfl, ?_⟩))
     refine mT rfl (congrArg LV.bool hb15) (mN1 (oLdE (f := stamp_group.lv) rfl rfl (idxOk hx16).2 rfl rfl rfl tk3 ta3 ⟨rfl, ?_⟩))
     obtain ⟨x17, hx17, hv⟩ := bindS hv
     refine mT rfl (congrArg LV.bool hb15) (mN0 (oIx (f := GStamp.lv) te69 tk32 ts32 rfl rfl GStamp.ok hx17 rfl ⟨rfl, ?_⟩))
     refine mT rfl (congrArg LV.bool hb15) (mN0 (oLdA rfl tk32 ta32 ts32 rfl rfl ⟨rfl, ?_⟩))
     refine mT rfl (congrArg LV.bool hb15) (mN0 (oLd rfl tk69 ta69 ⟨rfl, ?_⟩))
     refine mT rfl (congrArg LV.bool hb15) (mN0 (oM (v := (.int _ _)) rfl ⟨rfl, ?_⟩))
     obtain ⟨x18, hx18, hv⟩ := bindS hv
     refine mT rfl (congrArg LV.bool hb15) (mN0 (oIx (f := GStamp.lv) te69 tk32 ts32 rfl rfl GStamp.ok hx18 rfl ⟨rfl, ?_⟩))
     refine mT rfl (congrArg LV.bool hb15) (mN0 (oLdA rfl tk32 ta32 ts32 rfl rfl ⟨rfl, ?_⟩))
     obtain ⟨r19, hr19, hv⟩ := bindS hv
     refine mT rfl (congrArg LV.bool hb15) (mN0 (oCP (args := [.agg [.I x17.Time, .I x17.Source, .I x17.Seq], .agg [.I x18.Time, .I x18.Source, .I x18.Seq]]) rfl isF91 rfl (sbR (sbR sbN)) (stamp_compareIdentity_ok hr19) rfl ⟨rfl, ?_⟩))
     refine mT rfl (congrArg LV.bool hb15) (mN0 (oNe rfl rfl ⟨rfl, ?_⟩))
     refine mN0 (oPkF (congrArg LV.bool hb15) (v := (.bool _)) rfl ⟨rfl, ?_⟩)
     obtain rfl := Option.some.inj hv
     exact m0 (Wk.eq rfl rfl rfl rfl)
   clear hv
   refine LH.cond (t := w14) rfl (fun hc20 => ?_) (fun hc20 => ?_)
   ·replace h := iteT h hc20
    obtain ⟨v21, hv21, h⟩ := bindS h
    refine LH.seqT [(1, .L p1), (2, .sptr [.lst 3 (List.map GStamp.lv p0)]), (8, .arr 161 (List.length v21)), (30, .L l8), (31, .I (l8.length : Int)), (32, .I n9)] [(161, .arr 99 2 (List.map stamp_group.lv v21))] rfl ?_ ?_
    ·refine sMa rfl ?_
     refine sMi rfl ?_
     refine sN (oBd (vs := [(0, .I x12), (1, .bool false)]) tu99 tz99 rfl (lf tf99_0 ts3 tk3 rfl rfl rfl (lf tf99_1 ts4 tk4 rfl rfl rfl lf0)) ?_)
     refine sN (oBS (f := stamp_group.lv) (ys := [(stamp_group.mk x12 false)]) te96 tr99 ts99 rfl rfl rfl stamp_group.ok ?_)
     refine sN (oAp (f := stamp_group.lv) te96 tr99 ts99 rfl rfl (prN rfl) rfl hv21 ?_)
     refine sAa rfl ?_
     exact s0 (Wk.eq rfl rfl rfl rfl)
    refine LH.exit ?_
    refine thenX ?_
    refine blockH ?_
    refine thenN ?_
    refine LH.loneT [(1, .L p1), (2, .sptr [.lst 3 (List.map GStamp.lv p0)]), (8, .arr 161 (List.length v21)), (30, .L l8), (31, .I (l8.length : Int)), (32, .I (i64 (n9 + 1)))] [(161, .arr 99 2 (List.map stamp_group.lv v21))] rfl ?_ ?_
    ·refine sN (oAdd rfl rfl ?_)
     refine sMi rfl ?_
     exact s0 (Wk.eq rfl rfl rfl rfl)
    exact roundI ⟨(i64 (n9 + 1)), v21, hrec2 ▸ h, rfl, rfl⟩ (Wk.eq rfl rfl rfl rfl)
   replace h := iteF h hc20
   refine LH.skip ?_
   refine thenN ?_
   obtain ⟨x22, hx22, h⟩ := bindS h
   refine LH.seqT [(1, .L p1), (2, .sptr [.lst 3 (List.map GStamp.lv p0)]), (8, .arr 161 (List.length l10)), (10, .I x12), (11, .I (i64 ((l10.length : Int) - 1))), (12, .I x22.first), (30, .L l8), (31, .I (l8.length : Int)), (32, .I n9)] [(161, .arr 99 2 (List.map stamp_group.lv l10))] rfl ?_ ?_
   ·refine sMa rfl ?_
    refine sMi rfl ?_
    refine sN (oIxA (f := stamp_group.lv) te96 tk99 ts99 rfl rfl rfl hx22 ?_)
    refine sN (oFaE (f := stamp_group.lv) tf99_0 tk3 ts3 rfl rfl rfl ?_)
    refine sN (oLdE (f := stamp_group.lv) rfl rfl (idxOk hx22).2 rfl rfl rfl tk3 ta3 ?_)
    refine sAi rfl ?_
    exact s0 (Wk.eq rfl rfl rfl rfl)
   obtain ⟨w24, hv, h⟩ := bindS h
   refine LH.seqJM mixed [] [0, 0, 0, 0, 0, 0, 0, 0, 0, 0, 0, 0, 0, 0, 0, 0, 0, 0, 0, 0] [(1, .L p1), (2, .sptr [.lst 3 (List.map GStamp.lv p0)]), (8, .arr 161 (List.length l10)), (11, .I (i64 ((l10.length : Int) - 1))), (30, .L l8), (31, .I (l8.length : Int)), (32, .I n9), (86, .bool w24)] [(161, .arr 99 2 (List.map stamp_group.lv l10))] rfl rfl (by kernel_rfl) ?_ ?_
   ·refine mN0 (oLd rfl tk69 ta69 ⟨rfl, ?_⟩)
    refine mN0 (oM (v := (.int _ _)) rfl ⟨rfl, ?_⟩)
    obtain ⟨x25, hx25, hv⟩ := bindS hv
    refine mN0 (oIx (f := GStamp.lv) te69 tk32 ts32 rfl rfl GStamp.ok hx25 rfl ⟨rfl, ?_⟩)
    refine mN0 (oLdA rfl tk32 ta32 ts32 rfl rfl ⟨rfl, ?_⟩)
    refine mN0 (oLd rfl tk69 ta69 ⟨rfl, ?_⟩)
    refine mN0 (oM (v := (.int _ _)) rfl ⟨rfl, ?_⟩)
    obtain ⟨x26, hx26, hv⟩ := bindS hv
    refine mN0 (oIx (f := GStamp.lv) te69 tk32 ts32 rfl rfl GStamp.ok hx26 rfl ⟨rfl, ?_⟩)
    refine mN0 (oLdA rfl tk32 ta32 ts32 rfl rfl ⟨rfl, ?_⟩)
    refine mN0 (oNeA rfl rfl (ae32 x25 x26) ⟨rfl, ?_⟩)
    refine mN0 (oM (v := (.bool _)) rfl ⟨rfl, ?_⟩)
    by_cases hb27 : (!(decide (x25 = x26))) = true
    ·replace hv := iteT hv hb27
     refine mF rfl rfl hb27 ?_
     refine mF rfl rfl hb27 ?_
     refine mF rfl rfl hb27 ?_
     refine mF rfl rfl hb27 ?_
     refine mF rfl rfl hb27 ?_
     refine mF rfl rfl hb27 ?_
     refine mF rfl rfl hb27 ?_
     refine mF rfl rfl hb27 ?_
     refine mF rfl rfl hb27 ?_
     refine mN0 (oPkT (congrArg LV.bool hb27) (v := (.bool _)) rfl ⟨rfl, ?_⟩)
     obtain rfl := Option.some.inj hv
     exact m0 (Wk.eq rfl rfl rfl rfl)
    ·replace hb27 := bF hb27
     replace hv := iteF hv hb27
     refine mT rfl (congrArg LV.bool hb27) (mN0 (oM (v := (.lst _ _)) rfl ⟨rfl, ?_⟩))
     refine mT rfl (congrArg LV.bool hb27) (mN0 (oM (v := (.int _ _)) rfl ⟨rfl, ?_⟩))
     obtain ⟨x28, hx28, hv⟩ := bindS hv
     refine mT rfl (congrArg LV.bool hb27) (mN0 (oIx (f := LV.I) te22 tk3 ts3 rfl rfl okI hx28 rfl ⟨rfl, ?_⟩))
     refine mT rfl (congrArg LV.bool hb27) (mN0 (oLd rfl tk3 ta3 ⟨rfl, ?_⟩))
     refine mT rfl (congrArg LV.bool hb27) (mN0 (oM (v := (.lst _ _)) rfl ⟨rfl, ?_⟩))
     refine mT rfl (congrArg LV.bool hb27) (mN0 (oM (v := (.int _ _)) rfl ⟨rfl, ?_⟩))
     obtain ⟨x29, hx29, hv⟩ := bindS hv
     refine mT rfl (congrArg LV.bool hb27) (mN0 (oIx (f := LV.I) te22 tk3 ts3 rfl rfl okI hx29 rfl ⟨rfl, ?_⟩))
     refine mT rfl (congrArg LV.bool hb27) (mN0 (oLd rfl tk3 ta3 ⟨rfl, ?_⟩))
     refine mT rfl (congrArg LV.bool hb27) (mN0 (oNe rfl rfl ⟨rfl, ?_⟩))
     refine mN0 (oPkF (congrArg LV.bool hb27) (v := (.bool _)) rfl ⟨rfl, ?_⟩)
     obtain rfl := Option.some.inj hv
     exact m0 (Wk.eq rfl rfl rfl rfl)
   clear hv
   refine LH.cond (t := w24) rfl (fun hc30 => ?_) (fun hc30 => ?_)
   ·replace h := iteT h hc30
    obtain ⟨x31, hx31, h⟩ := bindS h
    refine LH.loneT [(1, .L p1), (2, .sptr [.lst 3 (List.map GStamp.lv p0)]), (8, .arr 161 (List.length (l10.set ((i64 ((l10.length : Int) - 1)).toNat) (stamp_group.mk x31.first true)))), (30, .L l8), (31, .I (l8.length : Int)), (32, .I n9)] [(161, .arr 99 2 (List.map stamp_group.lv (l10.set ((i64 ((l10.length : Int) - 1)).toNat) (stamp_group.mk x31.first true))))] rfl ?_ ?_
    ·refine sMa rfl ?_
     refine sMi rfl ?_
     refine sN (oIxA (f := stamp_group.lv) te96 tk99 ts99 rfl rfl rfl hx31 ?_)
     refine sN (oFaE (f := stamp_group.lv) tf99_1 tk4 ts4 rfl rfl rfl ?_)
     refine s_ (oStE (f := stamp_group.lv) (z' := (stamp_group.mk x31.first true)) rfl rfl rfl rfl tk4 ts4 rfl (idxOk hx31).2 rfl ?_)
     exact s0 (Wk.to (eC rfl (eC rfl (eC (congrArg (LV.arr 161) (by simp)) (eC rfl (eC rfl (eC rfl eN)))))) ⟨rfl, trivial⟩ rfl (prK rfl))
    refine blockN ?_
    refine thenN ?_
    refine LH.loneT [(1, .L p1), (2, .sptr [.lst 3 (List.map GStamp.lv p0)]), (8, .arr 161 (List.length (l10.set ((i64 ((l10.length : Int) - 1)).toNat) (stamp_group.mk x31.first true)))), (30, .L l8), (31, .I (l8.length : Int)), (32, .I (i64 (n9 + 1)))] [(161, .arr 99 2 (List.map stamp_group.lv (l10.set ((i64 ((l10.length : Int) - 1)).toNat) (stamp_group.mk x31.first true))))] rfl ?_ ?_
    ·refine sN (oAdd rfl rfl ?_)
     refine sMi rfl ?_
     exact s0 (Wk.eq rfl rfl rfl rfl)
    exact roundI ⟨(i64 (n9 + 1)), (l10.set ((i64 ((l10.length : Int) - 1)).toNat) (stamp_group.mk x31.first true)), hrec2 ▸ h, rfl, rfl⟩ (Wk.eq rfl rfl rfl rfl)
   replace h := iteF h hc30
   refine LH.skip ?_
   refine blockN ?_
   refine thenN ?_
   refine LH.loneT [(1, .L p1), (2, .sptr [.lst 3 (List.map GStamp.lv p0)]), (8, .arr 161 (List.length l10)), (30, .L l8), (31, .I (l8.length : Int)), (32, .I (i64 (n9 + 1)))] [(161, .arr 99 2 (List.map stamp_group.lv l10))] rfl ?_ ?_
   ·refine sN (oAdd rfl rfl ?_)
    refine sMi rfl ?_
    exact s0 (Wk.eq rfl rfl rfl rfl)
   exact roundI ⟨(i64 (n9 + 1)), l10, hrec2 ▸ h, rfl, rfl⟩ (Wk.eq rfl rfl rfl rfl)
  replace h := iteF h hc11
  refine LH.exit ?_
  refine thenX ?_
  refine roundX ?_
  refine blockH ?_
  refine thenN ?_
  refine LH.wk ((Wk.trans (Wk.eq (el := [(8, .arr 161 (List.length l10))]) (ml := [(161, .arr 99 2 (List.map stamp_group.lv l10))]) rfl rfl rfl rfl) (Wk.trans (Wk.frzL (f := stamp_group.lv) (el' := [(8, .lst 2 (List.map stamp_group.lv l10))]) 161 99 2 l10 rfl rfl (prN rfl) (fZ fN)) (Wk.eq (el := [(8, .lst 2 (List.map stamp_group.lv l10))]) (ml := []) rfl rfl rfl rfl)))) ?_
  refine LH.seqT [(4, .lst 2 (List.map stamp_group.lv l10))] [] rfl ?_ ?_
  ·refine sMl rfl ?_
   refine sAl rfl ?_
   exact s0 (Wk.eq rfl rfl rfl rfl)
  refine LH.ret ?_
  obtain rfl := Option.some.inj h
  exact retE (congrArg Array.toList Try.results66) (lrT rfl (lr0 ⟨memN mN, rfl, prK rfl, Sub.rfl⟩))

theorem stamp_Compare_ok {F : Nat} {p0 : GStamp} {p1 : GStamp} {r : Int} (h : stamp_Compare F p0 p1 = some r) : LCall Try.prog 69 [.agg [.I p0.Time, .I p0.Source, .I p0.Seq], .agg [.I p1.Time, .I p1.Source, .I p1.Seq]] (Mem.of []) (.I r) (Mem.of []) := by
  unfold stamp_Compare at h
  refine bodyT Try.func69 rfl (by rw [Try.ntmps69]; exact Nat.le_of_ble_eq_true rfl) ?_
  refine LH.wk (Wk.eq (el := [(0, .agg [.I p0.Time, .I p0.Source, .I p0.Seq]), (1, .agg [.I p1.Time, .I p1.Source, .I p1.Seq])]) (ml := []) rfl rfl rfl rfl) ?_
  refine LH.seqT [(2, .sptr [.I p0.Time, .I p0.Source, .I p0.Seq]), (3, .sptr [.I p1.Time, .I p1.Source, .I p1.Seq])] [] rfl ?_ ?_
  ·refine sB (oBxR rfl rfl rfl rfl ?_)
   refine sB (oBxR rfl rfl rfl rfl ?_)
   refine sAi rfl ?_
   exact s0 (Wk.eq rfl rfl rfl rfl)
  obtain ⟨r1, hr1, h⟩ := bindS h
  obtain ⟨r2, hr2, h⟩ := bindS h
  obtain ⟨r3, hr3, h⟩ := bindS h
  obtain ⟨r4, hr4, h⟩ := bindS h
  refine LH.seqJM mixed [] [0, 0, 0, 0, 0, 0, 0, 0, 0, 0, 0, 0, 0, 0, 0, 0, 0, 0] [(4, .I r4)] [] rfl rfl (by kernel_rfl) ?_ ?_
  ·refine mN0 (oFaS tf32_0 tk3 ts3 rfl rfl rfl ⟨rfl, ?_⟩)
   refine mN0 (oLd rfl tk3 ta3 ⟨rfl, ?_⟩)
   refine mN0 (oFaS tf32_0 tk3 ts3 rfl rfl rfl ⟨rfl, ?_⟩)
   refine mN0 (oLd rfl tk3 ta3 ⟨rfl, ?_⟩)
   refine mN0 (oCP (args := [.I p0.Time, .I p1.Time]) rfl isF52 rfl (sbR (sbR sbN)) (cmp_Compare_int_ok hr1) rfl ⟨rfl, ?_⟩)
   refine mN0 (oFaS tf32_1 tk3 ts3 rfl rfl rfl ⟨rfl, ?_⟩)
   refine mN0 (oLd rfl tk3 ta3 ⟨rfl, ?_⟩)
   refine mN0 (oFaS tf32_1 tk3 ts3 rfl rfl rfl ⟨rfl, ?_⟩)
   refine mN0 (oLd rfl tk3 ta3 ⟨rfl, ?_⟩)
   refine mN0 (oCP (args := [.I p0.Source, .I p1.Source]) rfl isF52 rfl (sbR (sbR sbN)) (cmp_Compare_int_ok hr2) rfl ⟨rfl, ?_⟩)
   refine mN0 (oFaS tf32_2 tk3 ts3 rfl rfl rfl ⟨rfl, ?_⟩)
   refine mN0 (oLd rfl tk3 ta3 ⟨rfl, ?_⟩)
   refine mN0 (oFaS tf32_2 tk3 ts3 rfl rfl rfl ⟨rfl, ?_⟩)
   refine mN0 (oLd rfl tk3 ta3 ⟨rfl, ?_⟩)
   refine mN0 (oCP (args := [.I p0.Seq, .I p1.Seq]) rfl isF52 rfl (sbR (sbR sbN)) (cmp_Compare_int_ok hr3) rfl ⟨rfl, ?_⟩)
   refine mN0 (oBS (f := LV.I) (ys := [r1, r2, r3]) te22 tr3 ts3 rfl rfl rfl okI ⟨rfl, ?_⟩)
   refine mN0 (oCP (args := [.L [r1, r2, r3]]) rfl isF90 rfl (sbR sbN) (cmp_Or_int_ok hr4) rfl ⟨rfl, ?_⟩)
   refine mN0 (oA (v := (.int _ _)) rfl ⟨rfl, ?_⟩)
   exact m0 (Wk.eq rfl rfl rfl rfl)
  refine LH.ret ?_
  obtain rfl := Option.some.inj h
  exact retE (congrArg Array.toList Try.results69) (lrT rfl (lr0 ⟨memN mN, rfl, prK rfl, Sub.rfl⟩))

theorem stamp_Canonical_1_ok {F : Nat} {p0 : Int} {p1 : Int} {c0 : List GStamp} {r : Int} (h : stamp_Canonical_1 F p0 p1 c0 = some r) : LCall Try.prog 68 [.I p0, .I p1, .sptr [.lst 3 (List.map GStamp.lv c0)]] (Mem.of []) (.I r) (Mem.of []) := by
  unfold stamp_Canonical_1 at h
  refine bodyT Try.func68 rfl (by rw [Try.ntmps68]; exact Nat.le_of_ble_eq_true rfl) ?_
  refine LH.wk (Wk.eq (el := [(0, .I p0), (1, .I p1), (2, .sptr [.lst 3 (List.map GStamp.lv c0)])]) (ml := []) rfl rfl rfl rfl) ?_
  refine LH.seqT [(0, .I p0), (1, .I p1), (2, .sptr [.lst 3 (List.map GStamp.lv c0)])] [] rfl ?_ ?_
  ·refine sAi rfl ?_
   exact s0 (Wk.eq rfl rfl rfl rfl)
  obtain ⟨x1, hx1, h⟩ := bindS h
  obtain ⟨x2, hx2, h⟩ := bindS h
  obtain ⟨r3, hr3, h⟩ := bindS h
  refine LH.seqJM mixed [] [0, 0, 0, 0, 0, 0, 0, 0, 0, 0] [(5, .I r3)] [] rfl rfl (by kernel_rfl) ?_ ?_
  ·refine mN0 (oLd rfl tk69 ta69 ⟨rfl, ?_⟩)
   refine mN0 (oM (v := (.int _ _)) rfl ⟨rfl, ?_⟩)
   refine mN0 (oIx (f := GStamp.lv) te69 tk32 ts32 rfl rfl GStamp.ok hx1 rfl ⟨rfl, ?_⟩)
   refine mN0 (oLdA rfl tk32 ta32 ts32 rfl rfl ⟨rfl, ?_⟩)
   refine mN0 (oLd rfl tk69 ta69 ⟨rfl, ?_⟩)
   refine mN0 (oM (v := (.int _ _)) rfl ⟨rfl, ?_⟩)
   refine mN0 (oIx (f := GStamp.lv) te69 tk32 ts32 rfl rfl GStamp.ok hx2 rfl ⟨rfl, ?_⟩)
   refine mN0 (oLdA rfl tk32 ta32 ts32 rfl rfl ⟨rfl, ?_⟩)
   refine mN0 (oCP (args := [.agg [.I x1.Time, .I x1.Source, .I x1.Seq], .agg [.I x2.Time, .I x2.Source, .I x2.Seq]]) rfl isF69 rfl (sbR (sbR sbN)) (stamp_Compare_ok hr3) rfl ⟨rfl, ?_⟩)
   refine mN0 (oA (v := (.int _ _)) rfl ⟨rfl, ?_⟩)
   exact m0 (Wk.eq rfl rfl rfl rfl)
  refine LH.ret ?_
  obtain rfl := Option.some.inj h
  exact retE (congrArg Array.toList Try.results68) (lrT rfl (lr0 ⟨memN mN, rfl, prK rfl, Sub.rfl⟩))

theorem stamp_Canonical_ok {F : Nat} {p0 : List GStamp} {p1 : List Int} {r : List Int × Int} (h : stamp_Canonical F p0 p1 = some r) : LCall Try.prog 47 [.lst 3 (List.map GStamp.lv p0), .L p1] (Mem.of []) (.tup [.L r.1, .I r.2]) (Mem.of []) := by
  unfold stamp_Canonical at h
  refine bodyT Try.func47 rfl (by rw [Try.ntmps47]; exact Nat.le_of_ble_eq_true rfl) ?_
  refine LH.wk (Wk.eq (el := [(0, .lst 3 (List.map GStamp.lv p0)), (1, .L p1)]) (ml := []) rfl rfl rfl rfl) ?_
  refine LH.seqT [(1, .L p1), (2, .sptr [.lst 3 (List.map GStamp.lv p0)])] [] rfl ?_ ?_
  ·refine sB (oBxR rfl rfl rfl rfl ?_)
   refine sAn rfl ?_
   refine sAi rfl ?_
   exact s0 (Wk.eq rfl rfl rfl rfl)
  refine LH.seq ?_
  refine LH.seqT [(1, .L p1), (2, .sptr [.lst 3 (List.map GStamp.lv p0)]), (13, .bool ((p0.length : Int) != (p1.length : Int)))] [] rfl ?_ ?_
  ·refine sN (oLd rfl tk69 ta69 ?_)
   refine sN (oLnL (f := GStamp.lv) te69 rfl ?_)
   refine sMl rfl ?_
   refine sN (oLnL (f := LV.I) te22 rfl ?_)
   refine sN (oNe rfl rfl ?_)
   exact s0 (Wk.eq rfl rfl rfl rfl)
  refine LH.cond (t := ((p0.length : Int) != (p1.length : Int))) rfl (fun hc1 => ?_) (fun hc1 => ?_)
  ·replace h := iteT h hc1
   refine LH.seqT [(4, .nil), (5, .I 1)] [] rfl ?_ ?_
   ·refine sAn rfl ?_
    refine sAi rfl ?_
    exact s0 (Wk.eq rfl rfl rfl rfl)
   refine LH.ret ?_
   refine thenR ?_
   obtain rfl := Option.some.inj h
   exact retE (congrArg Array.toList Try.results47) (lrT rfl (lrT rfl (lr0 ⟨memN mN, rfl, prK rfl, (Sub.tup (sbL (sbR sbN)))⟩)))
  replace h := iteF h hc1
  refine LH.skip ?_
  refine thenN ?_
  refine LH.seqT [(1, .L p1), (2, .sptr [.lst 3 (List.map GStamp.lv p0)]), (6, .nil)] [] rfl ?_ ?_
  ·refine sAn rfl ?_
   exact s0 (Wk.eq rfl rfl rfl rfl)
  refine LH.seq ?_
  obtain ⟨r2, hr2, h⟩ := bindS h
  refine LH.seqT [(2, .sptr [.lst 3 (List.map GStamp.lv p0)]), (6, .nil), (16, .lst 2 (List.map stamp_group.lv r2)), (17, .I (r2.length : Int)), (18, .I 0)] [] rfl ?_ ?_
  ·refine sN (oLd rfl tk69 ta69 ?_)
   refine sMl rfl ?_
   refine sN (oCP (args := [.lst 3 (List.map GStamp.lv p0), .L p1]) rfl isF66 rfl (sbR (sbR sbN)) (stamp_groups_ok hr2) rfl ?_)
   refine sN (oLnL (f := stamp_group.lv) te96 rfl ?_)
   refine sMi rfl ?_
   exact s0 (Wk.eq rfl rfl rfl rfl)
  refine LH.block ?_
  refine LH.wk ((Wk.trans (Wk.eq (el := [(2, .sptr [.lst 3 (List.map GStamp.lv p0)]), (6, .nil), (16, .lst 2 (List.map stamp_group.lv r2)), (17, .I (r2.length : Int)), (18, .I 0)]) (ml := []) rfl rfl rfl rfl) (Wk.trans (Wk.eq (el := [(2, .sptr [.lst 3 (List.map GStamp.lv p0)]), (6, .nil), (16, .lst 2 (List.map stamp_group.lv r2)), (17, .I (r2.length : Int)), (18, .I 0)]) (ml := []) rfl rfl rfl rfl) (Wk.trans (Wk.ownL (el' := [(2, .sptr [.lst 3 (List.map GStamp.lv p0)]), (6, .arr 129 (List.length ([] : List Int))), (16, .lst 2 (List.map stamp_group.lv r2)), (17, .I (r2.length : Int)), (18, .I 0)]) 129 3 1 rfl rfl (wK (wO (wK (wK (wK wN)))))) (Wk.eq (el := [(2, .sptr [.lst 3 (List.map GStamp.lv p0)]), (6, .arr 129 (List.length ([] : List Int))), (16, .lst 2 (List.map stamp_group.lv r2)), (17, .I (r2.length : Int)), (18, .I 0)]) (ml := [(129, .arr 3 1 (List.map LV.I ([] : List Int)))]) rfl rfl rfl rfl))))) ?_
  refine LH.loop (fun n e m => ∃ (n3 : Int) (l4 : List Int), stamp_Canonical_L1 F p0 r2 n n3 l4 = some r ∧ e = Env.of [(2, .sptr [.lst 3 (List.map GStamp.lv p0)]), (6, .arr 129 (List.length l4)), (16, .lst 2 (List.map stamp_group.lv r2)), (17, .I (r2.length : Int)), (18, .I n3)] ∧ m = Mem.of [(129, .arr 3 1 (List.map LV.I l4))]) F ⟨0, ([] : List Int), h, rfl, rfl⟩ ?_
  clear h
  rintro n e m ⟨n3, l4, h, rfl, rfl⟩
  rcases n with _ | n
  · cases (show Option.none = some _ from h)
  obtain ⟨rec1, hrec1⟩ : ∃ f, f = stamp_Canonical_L1 F p0 r2 n := ⟨_, rfl⟩
  replace h : stamp_Canonical_L1_B F p0 r2 rec1 n3 l4 = some r := hrec1 ▸ h
  unfold stamp_Canonical_L1_B at h
  refine LH.seqT [(2, .sptr [.lst 3 (List.map GStamp.lv p0)]), (6, .arr 129 (List.length l4)), (16, .lst 2 (List.map stamp_group.lv r2)), (17, .I (r2.length : Int)), (18, .I n3), (19, .bool (decide (n3 < (r2.length : Int))))] [(129, .arr 3 1 (List.map LV.I l4))] rfl ?_ ?_
  ·refine sN (oLt rfl rfl ?_)
   exact s0 (Wk.eq rfl rfl rfl rfl)
  refine LH.seq ?_
  refine LH.cond (t := (decide (n3 < (r2.length : Int)))) rfl (fun hc5 => ?_) (fun hc5 => ?_)
  ·replace h := iteT h hc5
   refine LH.skip ?_
   refine thenN ?_
   refine LH.wk (Wk.eq (el := [(2, .sptr [.lst 3 (List.map GStamp.lv p0)]), (6, .arr 129 (List.length l4)), (16, .lst 2 (List.map stamp_group.lv r2)), (17, .I (r2.length : Int)), (18, .I n3)]) (ml := [(129, .arr 3 1 (List.map LV.I l4))]) rfl rfl rfl rfl) ?_
   refine LH.seq ?_
   refine LH.block ?_
   obtain ⟨x6, hx6, h⟩ := bindS h
   refine LH.seqT [(2, .sptr [.lst 3 (List.map GStamp.lv p0)]), (6, .arr 129 (List.length l4)), (8, .sptr [.I x6.first, .bool x6.disputed]), (16, .lst 2 (List.map stamp_group.lv r2)), (17, .I (r2.length : Int)), (18, .I n3)] [(129, .arr 3 1 (List.map LV.I l4))] rfl ?_ ?_
   ·refine sN (oIx (f := stamp_group.lv) te96 tk99 ts99 rfl rfl stamp_group.ok hx6 rfl ?_)
    refine sN (oLdA rfl tk99 ta99 ts99 rfl rfl ?_)
    refine sN (oAl (id := 108) rfl tz99 rfl rfl ?_)
    refine s_ (oSt rfl rfl rfl tk99 ts99 rfl rfl rfl ?_)
    exact s0 ((Wk.trans (Wk.eq (el := [(2, .sptr [.lst 3 (List.map GStamp.lv p0)]), (6, .arr 129 (List.length l4)), (8, .ptr 108 0), (16, .lst 2 (List.map stamp_group.lv r2)), (17, .I (r2.length : Int)), (18, .I n3)]) (ml := [(108, .box [.I x6.first, .bool x6.disputed]), (129, .arr 3 1 (List.map LV.I l4))]) rfl rfl rfl rfl) (Wk.trans (Wk.frzB 108 [.I x6.first, .bool x6.disputed] rfl rfl rfl (prN rfl)) (Wk.eq rfl rfl rfl rfl))))
   refine LH.seqT [(2, .sptr [.lst 3 (List.map GStamp.lv p0)]), (6, .arr 129 (List.length l4)), (8, .sptr [.I x6.first, .bool x6.disputed]), (16, .lst 2 (List.map stamp_group.lv r2)), (17, .I (r2.length : Int)), (18, .I n3), (24, .bool (!x6.disputed))] [(129, .arr 3 1 (List.map LV.I l4))] rfl ?_ ?_
   ·refine sN (oFaS tf99_1 tk4 ts4 rfl rfl rfl ?_)
    refine sN (oLd rfl tk4 ta4 ?_)
    refine sN (oNot rfl ?_)
    exact s0 (Wk.eq rfl rfl rfl rfl)
   refine LH.cond (t := (!x6.disputed)) rfl (fun hc7 => ?_) (fun hc7 => ?_)
   ·replace h := iteT h hc7
    obtain ⟨v8, hv8, h⟩ := bindS h
    refine LH.loneT [(2, .sptr [.lst 3 (List.map GStamp.lv p0)]), (6, .arr 129 (List.length v8)), (16, .lst 2 (List.map stamp_group.lv r2)), (17, .I (r2.length : Int)), (18, .I n3)] [(129, .arr 3 1 (List.map LV.I v8))] rfl ?_ ?_
    ·refine sMa rfl ?_
     refine sN (oFaS tf99_0 tk3 ts3 rfl rfl rfl ?_)
     refine sN (oLd rfl tk3 ta3 ?_)
     refine sN (oBS (f := LV.I) (ys := [x6.first]) te22 tr3 ts3 rfl rfl rfl okI ?_)
     refine sN (oAp (f := LV.I) te22 tr3 ts3 rfl rfl (prN rfl) rfl hv8 ?_)
     refine sAa rfl ?_
     exact s0 (Wk.eq rfl rfl rfl rfl)
    refine blockN ?_
    refine thenN ?_
    refine LH.loneT [(2, .sptr [.lst 3 (List.map GStamp.lv p0)]), (6, .arr 129 (List.length v8)), (16, .lst 2 (List.map stamp_group.lv r2)), (17, .I (r2.length : Int)), (18, .I (i64 (n3 + 1)))] [(129, .arr 3 1 (List.map LV.I v8))] rfl ?_ ?_
    ·refine sN (oAdd rfl rfl ?_)
     refine sMi rfl ?_
     exact s0 (Wk.eq rfl rfl rfl rfl)
    exact roundI ⟨(i64 (n3 + 1)), v8, hrec1 ▸ h, rfl, rfl⟩ (Wk.eq rfl rfl rfl rfl)
   replace h := iteF h hc7
   refine LH.skip ?_
   refine blockN ?_
   refine thenN ?_
   refine LH.loneT [(2, .sptr [.lst 3 (List.map GStamp.lv p0)]), (6, .arr 129 (List.length l4)), (16, .lst 2 (List.map stamp_group.lv r2)), (17, .I (r2.length : Int)), (18, .I (i64 (n3 + 1)))] [(129, .arr 3 1 (List.map LV.I l4))] rfl ?_ ?_
   ·refine sN (oAdd rfl rfl ?_)
    refine sMi rfl ?_
    exact s0 (Wk.eq rfl rfl rfl rfl)
   exact roundI ⟨(i64 (n3 + 1)), l4, hrec1 ▸ h, rfl, rfl⟩ (Wk.eq rfl rfl rfl rfl)
  replace h := iteF h hc5
  refine LH.exit ?_
  refine thenX ?_
  refine roundX ?_
  refine blockH ?_
  refine thenN ?_
  refine LH.wk (Wk.eq (el := [(2, .sptr [.lst 3 (List.map GStamp.lv p0)]), (6, .arr 129 (List.length l4))]) (ml := [(129, .arr 3 1 (List.map LV.I l4))]) rfl rfl rfl rfl) ?_
  refine LH.seq ?_
  refine LH.seqT [(2, .sptr [.lst 3 (List.map GStamp.lv p0)]), (6, .arr 129 (List.length l4)), (33, .bool (decide ((l4.length : Int) > 300)))] [(129, .arr 3 1 (List.map LV.I l4))] rfl ?_ ?_
  ·refine sMa rfl ?_
   refine sN (oLnA (f := LV.I) te22 rfl rfl ?_)
   refine sN (oGt rfl rfl ?_)
   exact s0 (Wk.eq rfl rfl rfl rfl)
  refine LH.cond (t := (decide ((l4.length : Int) > 300))) rfl (fun hc9 => ?_) (fun hc9 => ?_)
  ·replace h := iteT h hc9
   refine LH.seqT [(4, .nil), (5, .I 3)] [] rfl ?_ ?_
   ·refine sAn rfl ?_
    refine sAi rfl ?_
    exact s0 (Wk.eq rfl rfl rfl rfl)
   refine LH.ret ?_
   refine thenR ?_
   obtain rfl := Option.some.inj h
   exact retE (congrArg Array.toList Try.results47) (lrT rfl (lrT rfl (lr0 ⟨memN mN, rfl, prK rfl, (Sub.tup (sbL (sbR sbN)))⟩)))
  replace h := iteF h hc9
  refine LH.skip ?_
  refine thenN ?_
  obtain ⟨l10, hl10, h⟩ := bindS h
  refine LH.seqT [(6, .L l10)] [] rfl ?_ ?_
  ·refine sMa rfl ?_
   refine sN (oMF (vs := [.sptr [.lst 3 (List.map GStamp.lv p0)]]) rfl ?_)
   refine sN (oCM (args := [.arr 129 (List.length l4), .fn 68 [.sptr [.lst 3 (List.map GStamp.lv p0)]]]) (ml := [(129, .arr 3 1 (List.map LV.I l4))]) (ml' := [(129, .arr 3 1 (List.map LV.I l10))]) rfl isF67 rfl (sbR (sbR sbN)) (sortI_ok Try.sortL rfl isF68 rfl (fun _ _ _ h => stamp_Canonical_1_ok h) 129 3 hl10) (mC rfl mN) (newI rfl newN) rfl ?_)
   exact s0 ((Wk.trans (Wk.to (el := [(6, .arr 129 (List.length l10))]) (ml := [(129, .arr 3 1 (List.map LV.I l10))]) (eC (congrArg (LV.arr 129) (sortF_len hl10)) eN) ⟨rfl, trivial⟩ rfl (prK rfl)) (Wk.trans (Wk.frzL (f := LV.I) (el' := [(6, .L l10)]) 129 3 1 l10 rfl rfl (prN rfl) (fZ fN)) (Wk.eq rfl rfl rfl rfl))))
  refine LH.seqT [(4, .L l10), (5, .I 0)] [] rfl ?_ ?_
  ·refine sMl rfl ?_
   refine sAl rfl ?_
   refine sAi rfl ?_
   exact s0 (Wk.eq rfl rfl rfl rfl)
  refine LH.ret ?_
  obtain rfl := Option.some.inj h
  exact retE (congrArg Array.toList Try.results47) (lrT rfl (lrT rfl (lr0 ⟨memN mN, rfl, prK rfl, (Sub.tup (sbR (sbR sbN)))⟩)))

theorem copies_Canonical_BagEvent_ok {F : Nat} {p0 : List GBagEvent} {p1 : (GBagEvent → Option GStamp)} {p2 : (GBagEvent → GBagEvent → Option Bool)} {r : List Int × Int} {p1_f : Nat} {p1_c : List LV} (p1_i : IsF Try.prog p1_f) (p1_q : LV.pureL p1_c = true) (p1_k : ∀ (x0 : GBagEvent) (q : GStamp), p1 x0 = some q → LCall Try.prog p1_f ([.agg [.I x0.Stamp.Time, .I x0.Stamp.Source, .I x0.Stamp.Seq, .I x0.Kind, .I x0.Bag, .I x0.Seal, .I x0.From, .I x0.To, .L x0.Candidates]] ++ p1_c) (Mem.of []) (.agg [.I q.Time, .I q.Source, .I q.Seq]) (Mem.of [])) {p2_f : Nat} {p2_c : List LV} (p2_i : IsF Try.prog p2_f) (p2_q : LV.pureL p2_c = true) (p2_k : ∀ (x0 : GBagEvent) (x1 : GBagEvent) (q : Bool), p2 x0 x1 = some q → LCall Try.prog p2_f ([.agg [.I x0.Stamp.Time, .I x0.Stamp.Source, .I x0.Stamp.Seq, .I x0.Kind, .I x0.Bag, .I x0.Seal, .I x0.From, .I x0.To, .L x0.Candidates], .agg [.I x1.Stamp.Time, .I x1.Stamp.Source, .I x1.Stamp.Seq, .I x1.Kind, .I x1.Bag, .I x1.Seal, .I x1.From, .I x1.To, .L x1.Candidates]] ++ p2_c) (Mem.of []) (.bool q) (Mem.of [])) (h : copies_Canonical_BagEvent F p0 p1 p2 = some r) : LCall Try.prog 32 [.lst 9 (List.map GBagEvent.lv p0), .fn p1_f p1_c, .fn p2_f p2_c] (Mem.of []) (.tup [.L r.1, .I r.2]) (Mem.of []) := by
  have p2_p : ∀ {l : List LV}, LV.pureL l = true → LV.pureL (l ++ p2_c) = true := pnC p2_q
  have p2_r : LV.refsL p2_c = [] := refsL_pure p2_q
  have p1_p : ∀ {l : List LV}, LV.pureL l = true → LV.pureL (l ++ p1_c) = true := pnC p1_q
  have p1_r : LV.refsL p1_c = [] := refsL_pure p1_q
  unfold copies_Canonical_BagEvent at h
  refine bodyT Try.func32 rfl (by rw [Try.ntmps32]; exact Nat.le_of_ble_eq_true rfl) ?_
  refine LH.wk (Wk.to (el := [(0, .lst 9 (List.map GBagEvent.lv p0)), (1, .fn p1_f p1_c), (2, .fn p2_f p2_c)]) (ml := []) (eQ ⟨rfl, rfl, rfl, trivial⟩) mN (by simp [keptRefs, LV.refs, LV.refsL, LV.cells, lev, Env.args, Env.of, Env.put, Env.drop, p1_r, p2_r]) (prK rfl)) ?_
  refine LH.seqT [(0, .lst 9 (List.map GBagEvent.lv p0)), (1, .fn p1_f p1_c), (2, .fn p2_f p2_c)] [] rfl ?_ ?_
  ·refine sAn rfl ?_
   refine sAi rfl ?_
   exact s0 (Wk.to (eQ ⟨rfl, rfl, rfl, trivial⟩) mN (by simp [keptRefs, LV.refs, LV.refsL, LV.cells, lev, Env.args, Env.of, Env.put, Env.drop, p1_r, p2_r]) (prK rfl))
  obtain ⟨r1, hr1, h⟩ := bindS h
  refine LH.seqT [(8, .lst 3 (List.map GStamp.lv r1.1)), (9, .L r1.2)] [] rfl ?_ ?_
  ·refine sMl rfl ?_
   refine sN (oM (v := (.fn _ _)) rfl ?_)
   refine sN (oM (v := (.fn _ _)) rfl ?_)
   refine sN (oCP (args := [.lst 9 (List.map GBagEvent.lv p0), .fn p1_f p1_c, .fn p2_f p2_c]) rfl isF46 rfl (sbR (sbR (sbR sbN))) (copies_Split_BagEvent_ok p1_i p1_q p1_k p2_i p2_q p2_k hr1) (by simp [LV.pure, LV.pureL, p1_q, p2_q]) ?_)
   refine sMt rfl ?_
   refine sN (oEx rfl rfl ?_)
   refine sN (oEx rfl rfl ?_)
   refine sAl rfl ?_
   refine sAl rfl ?_
   exact s0 (Wk.to (eQ ⟨rfl, rfl, trivial⟩) mN (by simp [keptRefs, LV.refs, LV.refsL, LV.cells, lev, Env.args, Env.of, Env.put, Env.drop, p1_r, p2_r]) (prK rfl))
  obtain ⟨r2, hr2, h⟩ := bindS h
  refine LH.seqT [(6, .L r2.1), (7, .I r2.2)] [] rfl ?_ ?_
  ·refine sMl rfl ?_
   refine sMl rfl ?_
   refine sN (oCP (args := [.lst 3 (List.map GStamp.lv r1.1), .L r1.2]) rfl isF47 rfl (sbR (sbR sbN)) (stamp_Canonical_ok hr2) rfl ?_)
   refine sN (oEx rfl rfl ?_)
   refine sN (oEx rfl rfl ?_)
   refine sAl rfl ?_
   refine sAi rfl ?_
   exact s0 (Wk.to (eQ ⟨rfl, rfl, trivial⟩) mN (by simp [keptRefs, LV.refs, LV.refsL, LV.cells, lev, Env.args, Env.of, Env.put, Env.drop, p1_r, p2_r]) (prK rfl))
  refine LH.ret ?_
  obtain rfl := Option.some.inj h
  exact retE (congrArg Array.toList Try.results32) (lrT rfl (lrT rfl (lr0 ⟨memN mN, rfl, prK rfl, (Sub.tup (sbR (sbR sbN)))⟩)))

theorem custody_Canonical_1_ok {p0 : GBagEvent} {r : GStamp} (h : custody_Canonical_1 p0 = some r) : LCall Try.prog 33 [.agg [.I p0.Stamp.Time, .I p0.Stamp.Source, .I p0.Stamp.Seq, .I p0.Kind, .I p0.Bag, .I p0.Seal, .I p0.From, .I p0.To, .L p0.Candidates]] (Mem.of []) (.agg [.I r.Time, .I r.Source, .I r.Seq]) (Mem.of []) := by
  unfold custody_Canonical_1 at h
  refine bodyT Try.func33 rfl (by rw [Try.ntmps33]; exact Nat.le_of_ble_eq_true rfl) ?_
  refine LH.wk (Wk.eq (el := [(0, .agg [.I p0.Stamp.Time, .I p0.Stamp.Source, .I p0.Stamp.Seq, .I p0.Kind, .I p0.Bag, .I p0.Seal, .I p0.From, .I p0.To, .L p0.Candidates])]) (ml := []) rfl rfl rfl rfl) ?_
  refine LH.seqT [(1, .sptr [.I p0.Stamp.Time, .I p0.Stamp.Source, .I p0.Stamp.Seq, .I p0.Kind, .I p0.Bag, .I p0.Seal, .I p0.From, .I p0.To, .L p0.Candidates]), (2, .ptr 102 0)] [(102, .box [.I 0, .I 0, .I 0])] rfl ?_ ?_
  ·refine sB (oBxR rfl rfl rfl rfl ?_)
   refine sN (oAl (id := 102) rfl tz32 rfl rfl ?_)
   exact s0 (Wk.eq rfl rfl rfl rfl)
  refine LH.seqT [(2, .sptr [.I p0.Stamp.Time, .I p0.Stamp.Source, .I p0.Stamp.Seq])] [] rfl ?_ ?_
  ·refine sN (oFaS tf34_0 tk32 ts32 rfl rfl rfl ?_)
   refine sN (oLdA rfl tk32 ta32 ts32 rfl rfl ?_)
   refine s_ (oSt rfl rfl rfl tk32 ts32 rfl rfl rfl ?_)
   exact s0 ((Wk.trans (Wk.eq (el := [(2, .ptr 102 0)]) (ml := [(102, .box [.I p0.Stamp.Time, .I p0.Stamp.Source, .I p0.Stamp.Seq])]) rfl rfl rfl rfl) (Wk.trans (Wk.frzB 102 [.I p0.Stamp.Time, .I p0.Stamp.Source, .I p0.Stamp.Seq] rfl rfl rfl (prN rfl)) (Wk.eq rfl rfl rfl rfl))))
  refine LH.ret ?_
  obtain rfl := Option.some.inj h
  exact retE (congrArg Array.toList Try.results33) (lrSA rfl tk32 ta32 ts32 rfl rfl (lr0 ⟨memN mN, rfl, prK rfl, Sub.rfl⟩))

theorem slices_Equal_int_int_ok {F : Nat} {p0 : List Int} {p1 : List Int} {r : Bool} (h : slices_Equal_int_int F p0 p1 = some r) : LCall Try.prog 37 [.L p0, .L p1] (Mem.of []) (.bool r) (Mem.of []) := by
  unfold slices_Equal_int_int at h
  refine bodyT Try.func37 rfl (by rw [Try.ntmps37]; exact Nat.le_of_ble_eq_true rfl) ?_
  refine LH.wk (Wk.eq (el := [(0, .L p0), (1, .L p1)]) (ml := []) rfl rfl rfl rfl) ?_
  refine LH.seqT [(0, .L p0), (1, .L p1)] [] rfl ?_ ?_
  ·refine sAb rfl ?_
   exact s0 (Wk.eq rfl rfl rfl rfl)
  refine LH.seq ?_
  refine LH.seqT [(0, .L p0), (1, .L p1), (10, .bool ((p0.length : Int) != (p1.length : Int)))] [] rfl ?_ ?_
  ·refine sMl rfl ?_
   refine sN (oLnL (f := LV.I) te22 rfl ?_)
   refine sMl rfl ?_
   refine sN (oLnL (f := LV.I) te22 rfl ?_)
   refine sN (oNe rfl rfl ?_)
   exact s0 (Wk.eq rfl rfl rfl rfl)
  refine LH.cond (t := ((p0.length : Int) != (p1.length : Int))) rfl (fun hc1 => ?_) (fun hc1 => ?_)
  ·replace h := iteT h hc1
   refine LH.seqT [(4, .bool false)] [] rfl ?_ ?_
   ·refine sAb rfl ?_
    exact s0 (Wk.eq rfl rfl rfl rfl)
   refine LH.ret ?_
   refine thenR ?_
   obtain rfl := Option.some.inj h
   exact retE (congrArg Array.toList Try.results37) (lrT rfl (lr0 ⟨memN mN, rfl, prK rfl, Sub.rfl⟩))
  replace h := iteF h hc1
  refine LH.skip ?_
  refine thenN ?_
  refine LH.wk (Wk.eq (el := [(0, .L p0), (1, .L p1)]) (ml := []) rfl rfl rfl rfl) ?_
  refine LH.seq ?_
  refine LH.seqT [(0, .L p0), (1, .L p1), (12, .I (p0.length : Int)), (13, .I 0)] [] rfl ?_ ?_
  ·refine sMl rfl ?_
   refine sN (oLnL (f := LV.I) te22 rfl ?_)
   refine sMi rfl ?_
   exact s0 (Wk.eq rfl rfl rfl rfl)
  refine LH.block ?_
  refine LH.loop (fun n e m => ∃ (n2 : Int), slices_Equal_int_int_L1 p0 p1 n n2 = some r ∧ e = Env.of [(0, .L p0), (1, .L p1), (12, .I (p0.length : Int)), (13, .I n2)] ∧ m = Mem.of []) F ⟨0, h, rfl, rfl⟩ ?_
  clear h
  rintro n e m ⟨n2, h, rfl, rfl⟩
  rcases n with _ | n
  · cases (show Option.none = some _ from h)
  obtain ⟨rec1, hrec1⟩ : ∃ f, f = slices_Equal_int_int_L1 p0 p1 n := ⟨_, rfl⟩
  replace h : slices_Equal_int_int_L1_B p0 p1 rec1 n2 = some r := hrec1 ▸ h
  unfold slices_Equal_int_int_L1_B at h
  refine LH.seqT [(0, .L p0), (1, .L p1), (12, .I (p0.length : Int)), (13, .I n2), (14, .bool (decide (n2 < (p0.length : Int))))] [] rfl ?_ ?_
  ·refine sN (oLt rfl rfl ?_)
   exact s0 (Wk.eq rfl rfl rfl rfl)
  refine LH.seq ?_
  refine LH.cond (t := (decide (n2 < (p0.length : Int)))) rfl (fun hc3 => ?_) (fun hc3 => ?_)
  ·replace h := iteT h hc3
   refine LH.skip ?_
   refine thenN ?_
   refine LH.wk (Wk.eq (el := [(0, .L p0), (1, .L p1), (12, .I (p0.length : Int)), (13, .I n2)]) (ml := []) rfl rfl rfl rfl) ?_
   refine LH.seq ?_
   refine LH.block ?_
   refine LH.seqT [(0, .L p0), (1, .L p1), (5, .I n2), (12, .I (p0.length : Int)), (13, .I n2)] [] rfl ?_ ?_
   ·refine sMi rfl ?_
    refine sAi rfl ?_
    exact s0 (Wk.eq rfl rfl rfl rfl)
   obtain ⟨x4, hx4, h⟩ := bindS h
   obtain ⟨x5, hx5, h⟩ := bindS h
   refine LH.seqJM mixed [] [0, 0, 0, 0, 0, 0, 0, 0, 0] [(0, .L p0), (1, .L p1), (12, .I (p0.length : Int)), (13, .I n2), (24, .bool (x4 != x5))] [] rfl rfl (by kernel_rfl) ?_ ?_
   ·refine mN0 (oM (v := (.lst _ _)) rfl ⟨rfl, ?_⟩)
    refine mN0 (oM (v := (.int _ _)) rfl ⟨rfl, ?_⟩)
    refine mN0 (oIx (f := LV.I) te22 tk3 ts3 rfl rfl okI hx4 rfl ⟨rfl, ?_⟩)
    refine mN0 (oLd rfl tk3 ta3 ⟨rfl, ?_⟩)
    refine mN0 (oM (v := (.lst _ _)) rfl ⟨rfl, ?_⟩)
    refine mN0 (oM (v := (.int _ _)) rfl ⟨rfl, ?_⟩)
    refine mN0 (oIx (f := LV.I) te22 tk3 ts3 rfl rfl okI hx5 rfl ⟨rfl, ?_⟩)
    refine mN0 (oLd rfl tk3 ta3 ⟨rfl, ?_⟩)
    refine mN0 (oNe rfl rfl ⟨rfl, ?_⟩)
    exact m0 (Wk.eq rfl rfl rfl rfl)
   refine LH.cond (t := (x4 != x5)) rfl (fun hc6 => ?_) (fun hc6 => ?_)
   ·replace h := iteT h hc6
    refine LH.seqT [(4, .bool false)] [] rfl ?_ ?_
    ·refine sAb rfl ?_
     exact s0 (Wk.eq rfl rfl rfl rfl)
    refine LH.ret ?_
    refine blockR ?_
    refine thenR ?_
    refine roundR ?_
    refine blockR ?_
    refine thenR ?_
    obtain rfl := Option.some.inj h
    exact retE (congrArg Array.toList Try.results37) (lrT rfl (lr0 ⟨memN mN, rfl, prK rfl, Sub.rfl⟩))
   replace h := iteF h hc6
   refine LH.skip ?_
   refine blockN ?_
   refine thenN ?_
   refine LH.loneT [(0, .L p0), (1, .L p1), (12, .I (p0.length : Int)), (13, .I (i64 (n2 + 1)))] [] rfl ?_ ?_
   ·refine sN (oAdd rfl rfl ?_)
    refine sMi rfl ?_
    exact s0 (Wk.eq rfl rfl rfl rfl)
   exact roundI ⟨(i64 (n2 + 1)), hrec1 ▸ h, rfl, rfl⟩ (Wk.eq rfl rfl rfl rfl)
  replace h := iteF h hc3
  refine LH.exit ?_
  refine thenX ?_
  refine roundX ?_
  refine blockH ?_
  refine thenN ?_
  refine LH.seqT [(4, .bool true)] [] rfl ?_ ?_
  ·refine sAb rfl ?_
   exact s0 (Wk.eq rfl rfl rfl rfl)
  refine LH.ret ?_
  obtain rfl := Option.some.inj h
  exact retE (congrArg Array.toList Try.results37) (lrT rfl (lr0 ⟨memN mN, rfl, prK rfl, Sub.rfl⟩))

theorem custody_Same_ok {F : Nat} {p0 : GBagEvent} {p1 : GBagEvent} {r : Bool} (h : custody_Same F p0 p1 = some r) : LCall Try.prog 15 [.agg [.I p0.Stamp.Time, .I p0.Stamp.Source, .I p0.Stamp.Seq, .I p0.Kind, .I p0.Bag, .I p0.Seal, .I p0.From, .I p0.To, .L p0.Candidates], .agg [.I p1.Stamp.Time, .I p1.Stamp.Source, .I p1.Stamp.Seq, .I p1.Kind, .I p1.Bag, .I p1.Seal, .I p1.From, .I p1.To, .L p1.Candidates]] (Mem.of []) (.bool r) (Mem.of []) := by
  unfold custody_Same at h
  refine bodyT Try.func15 rfl (by rw [Try.ntmps15]; exact Nat.le_of_ble_eq_true rfl) ?_
  refine LH.wk (Wk.eq (el := [(0, .agg [.I p0.Stamp.Time, .I p0.Stamp.Source, .I p0.Stamp.Seq, .I p0.Kind, .I p0.Bag, .I p0.Seal, .I p0.From, .I p0.To, .L p0.Candidates]), (1, .agg [.I p1.Stamp.Time, .I p1.Stamp.Source, .I p1.Stamp.Seq, .I p1.Kind, .I p1.Bag, .I p1.Seal, .I p1.From, .I p1.To, .L p1.Candidates])]) (ml := []) rfl rfl rfl rfl) ?_
  refine LH.seqT [(2, .sptr [.I p0.Stamp.Time, .I p0.Stamp.Source, .I p0.Stamp.Seq, .I p0.Kind, .I p0.Bag, .I p0.Seal, .I p0.From, .I p0.To, .L p0.Candidates]), (3, .sptr [.I p1.Stamp.Time, .I p1.Stamp.Source, .I p1.Stamp.Seq, .I p1.Kind, .I p1.Bag, .I p1.Seal, .I p1.From, .I p1.To, .L p1.Candidates])] [] rfl ?_ ?_
  ·refine sB (oBxR rfl rfl rfl rfl ?_)
   refine sB (oBxR rfl rfl rfl rfl ?_)
   refine sAb rfl ?_
   exact s0 (Wk.eq rfl rfl rfl rfl)
  obtain ⟨w2, hv, h⟩ := bindS h
  refine LH.seqT [(4, .bool w2)] [] rfl ?_ ?_
  ·refine sN (oFaS tf34_0 tk32 ts32 rfl rfl rfl ?_)
   refine sN (oLdA rfl tk32 ta32 ts32 rfl rfl ?_)
   refine sN (oFaS tf34_0 tk32 ts32 rfl rfl rfl ?_)
   refine sN (oLdA rfl tk32 ta32 ts32 rfl rfl ?_)
   refine sN (oEqA rfl rfl (ae32 p0.Stamp p1.Stamp) ?_)
   refine sMb rfl ?_
   by_cases hb3 : (decide (p0.Stamp = p1.Stamp)) = true
   ·replace hv := iteT hv hb3
    refine sT rfl (congrArg LV.bool hb3) (oFaS tf34_1 tk3 ts3 rfl rfl rfl ?_)
    refine sT rfl (congrArg LV.bool hb3) (oLd rfl tk3 ta3 ?_)
    refine sT rfl (congrArg LV.bool hb3) (oFaS tf34_1 tk3 ts3 rfl rfl rfl ?_)
    refine sT rfl (congrArg LV.bool hb3) (oLd rfl tk3 ta3 ?_)
    refine sT rfl (congrArg LV.bool hb3) (oEq rfl rfl ?_)
    refine sN (oPkT (congrArg LV.bool hb3) (v := (.bool _)) rfl ?_)
    refine sMb rfl ?_
    by_cases hb4 : (p0.Kind == p1.Kind) = true
    ·replace hv := iteT hv hb4
     refine sT rfl (congrArg LV.bool hb4) (oFaS tf34_2 tk3 ts3 rfl rfl rfl ?_)
     refine sT rfl (congrArg LV.bool hb4) (oLd rfl tk3 ta3 ?_)
     refine sT rfl (congrArg LV.bool hb4) (oFaS tf34_2 tk3 ts3 rfl rfl rfl ?_)
     refine sT rfl (congrArg LV.bool hb4) (oLd rfl tk3 ta3 ?_)
     refine sT rfl (congrArg LV.bool hb4) (oEq rfl rfl ?_)
     refine sN (oPkT (congrArg LV.bool hb4) (v := (.bool _)) rfl ?_)
     refine sMb rfl ?_
     by_cases hb5 : (p0.Bag == p1.Bag) = true
     ·replace hv := iteT hv hb5
      refine sT rfl (congrArg LV.bool hb5) (oFaS tf34_3 tk3 ts3 rfl rfl rfl ?_)
      refine sT rfl (congrArg LV.bool hb5) (oLd rfl tk3 ta3 ?_)
      refine sT rfl (congrArg LV.bool hb5) (oFaS tf34_3 tk3 ts3 rfl rfl rfl ?_)
      refine sT rfl (congrArg LV.bool hb5) (oLd rfl tk3 ta3 ?_)
      refine sT rfl (congrArg LV.bool hb5) (oEq rfl rfl ?_)
      refine sN (oPkT (congrArg LV.bool hb5) (v := (.bool _)) rfl ?_)
      refine sMb rfl ?_
      by_cases hb6 : (p0.Seal == p1.Seal) = true
      ·replace hv := iteT hv hb6
       refine sT rfl (congrArg LV.bool hb6) (oFaS tf34_4 tk3 ts3 rfl rfl rfl ?_)
       refine sT rfl (congrArg LV.bool hb6) (oLd rfl tk3 ta3 ?_)
       refine sT rfl (congrArg LV.bool hb6) (oFaS tf34_4 tk3 ts3 rfl rfl rfl ?_)
       refine sT rfl (congrArg LV.bool hb6) (oLd rfl tk3 ta3 ?_)
       refine sT rfl (congrArg LV.bool hb6) (oEq rfl rfl ?_)
       refine sN (oPkT (congrArg LV.bool hb6) (v := (.bool _)) rfl ?_)
       refine sMb rfl ?_
       by_cases hb7 : (p0.From == p1.From) = true
       ·replace hv := iteT hv hb7
        refine sT rfl (congrArg LV.bool hb7) (oFaS tf34_5 tk3 ts3 rfl rfl rfl ?_)
        refine sT rfl (congrArg LV.bool hb7) (oLd rfl tk3 ta3 ?_)
        refine sT rfl (congrArg LV.bool hb7) (oFaS tf34_5 tk3 ts3 rfl rfl rfl ?_)
        refine sT rfl (congrArg LV.bool hb7) (oLd rfl tk3 ta3 ?_)
        refine sT rfl (congrArg LV.bool hb7) (oEq rfl rfl ?_)
        refine sN (oPkT (congrArg LV.bool hb7) (v := (.bool _)) rfl ?_)
        refine sMb rfl ?_
        by_cases hb8 : (p0.To == p1.To) = true
        ·replace hv := iteT hv hb8
         refine sT rfl (congrArg LV.bool hb8) (oFaS tf34_6 tk22 ts22 rfl rfl rfl ?_)
         refine sT rfl (congrArg LV.bool hb8) (oLd rfl tk22 ta22 ?_)
         refine sT rfl (congrArg LV.bool hb8) (oFaS tf34_6 tk22 ts22 rfl rfl rfl ?_)
         refine sT rfl (congrArg LV.bool hb8) (oLd rfl tk22 ta22 ?_)
         obtain ⟨r9, hr9, hv⟩ := bindS hv
         refine sT rfl (congrArg LV.bool hb8) (oCP (args := [.L p0.Candidates, .L p1.Candidates]) rfl isF37 rfl (sbR (sbR sbN)) (slices_Equal_int_int_ok hr9) rfl ?_)
         refine sN (oPkT (congrArg LV.bool hb8) (v := (.bool _)) rfl ?_)
         refine sAb rfl ?_
         obtain rfl := Option.some.inj hv
         exact s0 (Wk.eq rfl rfl rfl rfl)
        ·replace hb8 := bF hb8
         replace hv := iteF hv hb8
         refine sF rfl rfl hb8 ?_
         refine sF rfl rfl hb8 ?_
         refine sF rfl rfl hb8 ?_
         refine sF rfl rfl hb8 ?_
         refine sF rfl rfl hb8 ?_
         refine sN (oPkF (congrArg LV.bool hb8) (v := (.bool _)) rfl ?_)
         refine sAb rfl ?_
         obtain rfl := Option.some.inj hv
         exact s0 (Wk.eq rfl rfl rfl rfl)
       ·replace hb7 := bF hb7
        replace hv := iteF hv hb7
        refine sF rfl rfl hb7 ?_
        refine sF rfl rfl hb7 ?_
        refine sF rfl rfl hb7 ?_
        refine sF rfl rfl hb7 ?_
        refine sF rfl rfl hb7 ?_
        refine sN (oPkF (congrArg LV.bool hb7) (v := (.bool _)) rfl ?_)
        refine sMb rfl ?_
        refine sF rfl rfl rfl ?_
        refine sF rfl rfl rfl ?_
        refine sF rfl rfl rfl ?_
        refine sF rfl rfl rfl ?_
        refine sF rfl rfl rfl ?_
        refine sN (oPkF rfl (v := (.bool _)) rfl ?_)
        refine sAb rfl ?_
        obtain rfl := Option.some.inj hv
        exact s0 (Wk.eq rfl rfl rfl rfl)
      ·replace hb6 := bF hb6
       replace hv := iteF hv hb6
       refine sF rfl rfl hb6 ?_
       refine sF rfl rfl hb6 ?_
       refine sF rfl rfl hb6 ?_
       refine sF rfl rfl hb6 ?_
       refine sF rfl rfl hb6 ?_
       refine sN (oPkF (congrArg LV.bool hb6) (v := (.bool _)) rfl ?_)
       refine sMb rfl ?_
       refine sF rfl rfl rfl ?_
       refine sF rfl rfl rfl ?_
       refine sF rfl rfl rfl ?_
       refine sF rfl rfl rfl ?_
       refine sF rfl rfl rfl ?_
       refine sN (oPkF rfl (v := (.bool _)) rfl ?_)
       refine sMb rfl ?_
       refine sF rfl rfl rfl ?_
       refine sF rfl rfl rfl ?_
       refine sF rfl rfl rfl ?_
       refine sF rfl rfl rfl ?_
       refine sF rfl rfl rfl ?_
       refine sN (oPkF rfl (v := (.bool _)) rfl ?_)
       refine sAb rfl ?_
       obtain rfl := Option.some.inj hv
       exact s0 (Wk.eq rfl rfl rfl rfl)
     ·replace hb5 := bF hb5
      replace hv := iteF hv hb5
      refine sF rfl rfl hb5 ?_
      refine sF rfl rfl hb5 ?_
      refine sF rfl rfl hb5 ?_
      refine sF rfl rfl hb5 ?_
      refine sF rfl rfl hb5 ?_
      refine sN (oPkF (congrArg LV.bool hb5) (v := (.bool _)) rfl ?_)
      refine sMb rfl ?_
      refine sF rfl rfl rfl ?_
      refine sF rfl rfl rfl ?_
      refine sF rfl rfl rfl ?_
      refine sF rfl rfl rfl ?_
      refine sF rfl rfl rfl ?_
      refine sN (oPkF rfl (v := (.bool _)) rfl ?_)
      refine sMb rfl ?_
      refine sF rfl rfl rfl ?_
      refine sF rfl rfl rfl ?_
      refine sF rfl rfl rfl ?_
      refine sF rfl rfl rfl ?_
      refine sF rfl rfl rfl ?_
      refine sN (oPkF rfl (v := (.bool _)) rfl ?_)
      refine sMb rfl ?_
      refine sF rfl rfl rfl ?_
      refine sF rfl rfl rfl ?_
      refine sF rfl rfl rfl ?_
      refine sF rfl rfl rfl ?_
      refine sF rfl rfl rfl ?_
      refine sN (oPkF rfl (v := (.bool _)) rfl ?_)
      refine sAb rfl ?_
      obtain rfl := Option.some.inj hv
      exact s0 (Wk.eq rfl rfl rfl rfl)
    ·replace hb4 := bF hb4
     replace hv := iteF hv hb4
     refine sF rfl rfl hb4 ?_
     refine sF rfl rfl hb4 ?_
     refine sF rfl rfl hb4 ?_
     refine sF rfl rfl hb4 ?_
     refine sF rfl rfl hb4 ?_
     refine sN (oPkF (congrArg LV.bool hb4) (v := (.bool _)) rfl ?_)
     refine sMb rfl ?_
     refine sF rfl rfl rfl ?_
     refine sF rfl rfl rfl ?_
     refine sF rfl rfl rfl ?_
     refine sF rfl rfl rfl ?_
     refine sF rfl rfl rfl ?_
     refine sN (oPkF rfl (v := (.bool _)) rfl ?_)
     refine sMb rfl ?_
     refine sF rfl rfl rfl ?_
     refine sF rfl rfl rfl ?_
     refine sF rfl rfl rfl ?_
     refine sF rfl rfl rfl ?_
     refine sF rfl rfl rfl ?_
     refine sN (oPkF rfl (v := (.bool _)) rfl ?_)
     refine sMb rfl ?_
     refine sF rfl rfl rfl ?_
     refine sF rfl rfl rfl ?_
     refine sF rfl rfl rfl ?_
     refine sF rfl rfl rfl ?_
     refine sF rfl rfl rfl ?_
     refine sN (oPkF rfl (v := (.bool _)) rfl ?_)
     refine sMb rfl ?_
     refine sF rfl rfl rfl ?_
     refine sF rfl rfl rfl ?_
     refine sF rfl rfl rfl ?_
     refine sF rfl rfl rfl ?_
     refine sF rfl rfl rfl ?_
     refine sN (oPkF rfl (v := (.bool _)) rfl ?_)
     refine sAb rfl ?_
     obtain rfl := Option.some.inj hv
     exact s0 (Wk.eq rfl rfl rfl rfl)
   ·replace hb3 := bF hb3
    replace hv := iteF hv hb3
    refine sF rfl rfl hb3 ?_
    refine sF rfl rfl hb3 ?_
    refine sF rfl rfl hb3 ?_
    refine sF rfl rfl hb3 ?_
    refine sF rfl rfl hb3 ?_
    refine sN (oPkF (congrArg LV.bool hb3) (v := (.bool _)) rfl ?_)
    refine sMb rfl ?_
    refine sF rfl rfl rfl ?_
    refine sF rfl rfl rfl ?_
    refine sF rfl rfl rfl ?_
    refine sF rfl rfl rfl ?_
    refine sF rfl rfl rfl ?_
    refine sN (oPkF rfl (v := (.bool _)) rfl ?_)
    refine sMb rfl ?_
    refine sF rfl rfl rfl ?_
    refine sF rfl rfl rfl ?_
    refine sF rfl rfl rfl ?_
    refine sF rfl rfl rfl ?_
    refine sF rfl rfl rfl ?_
    refine sN (oPkF rfl (v := (.bool _)) rfl ?_)
    refine sMb rfl ?_
    refine sF rfl rfl rfl ?_
    refine sF rfl rfl rfl ?_
    refine sF rfl rfl rfl ?_
    refine sF rfl rfl rfl ?_
    refine sF rfl rfl rfl ?_
    refine sN (oPkF rfl (v := (.bool _)) rfl ?_)
    refine sMb rfl ?_
    refine sF rfl rfl rfl ?_
    refine sF rfl rfl rfl ?_
    refine sF rfl rfl rfl ?_
    refine sF rfl rfl rfl ?_
    refine sF rfl rfl rfl ?_
    refine sN (oPkF rfl (v := (.bool _)) rfl ?_)
    refine sMb rfl ?_
    refine sF rfl rfl rfl ?_
    refine sF rfl rfl rfl ?_
    refine sF rfl rfl rfl ?_
    refine sF rfl rfl rfl ?_
    refine sF rfl rfl rfl ?_
    refine sN (oPkF rfl (v := (.bool _)) rfl ?_)
    refine sAb rfl ?_
    obtain rfl := Option.some.inj hv
    exact s0 (Wk.eq rfl rfl rfl rfl)
  clear hv
  refine LH.ret ?_
  obtain rfl := Option.some.inj h
  exact retE (congrArg Array.toList Try.results15) (lrT rfl (lr0 ⟨memN mN, rfl, prK rfl, Sub.rfl⟩))

theorem custody_Canonical_ok {F : Nat} {p0 : List GBagEvent} {r : List GBagEvent × Int} (h : custody_Canonical F p0 = some r) : LCall Try.prog 11 [.lst 9 (List.map GBagEvent.lv p0)] (Mem.of []) (.tup [.lst 9 (List.map GBagEvent.lv r.1), .I r.2]) (Mem.of []) := by
  unfold custody_Canonical at h
  refine bodyT Try.func11 rfl (by rw [Try.ntmps11]; exact Nat.le_of_ble_eq_true rfl) ?_
  refine LH.wk (Wk.eq (el := [(0, .lst 9 (List.map GBagEvent.lv p0))]) (ml := []) rfl rfl rfl rfl) ?_
  refine LH.seqT [(0, .lst 9 (List.map GBagEvent.lv p0))] [] rfl ?_ ?_
  ·refine sAn rfl ?_
   refine sAi rfl ?_
   exact s0 (Wk.eq rfl rfl rfl rfl)
  obtain ⟨r1, hr1, h⟩ := bindS h
  refine LH.seqT [(0, .lst 9 (List.map GBagEvent.lv p0)), (4, .L r1.1), (5, .I r1.2)] [] rfl ?_ ?_
  ·refine sMl rfl ?_
   refine sN (oCP (args := [.lst 9 (List.map GBagEvent.lv p0), .fn 33 [], .fn 15 []]) rfl isF32 rfl (sbR (sbR (sbR sbN))) (copies_Canonical_BagEvent_ok (p1_f := 33) (p1_c := []) isF33 rfl (fun _ _ h => custody_Canonical_1_ok h) (p2_f := 15) (p2_c := []) isF15 rfl (fun _ _ _ h => custody_Same_ok h) hr1) rfl ?_)
   refine sMt rfl ?_
   refine sN (oEx rfl rfl ?_)
   refine sN (oEx rfl rfl ?_)
   refine sAl rfl ?_
   refine sAi rfl ?_
   exact s0 (Wk.eq rfl rfl rfl rfl)
  refine LH.seq ?_
  refine LH.seqT [(0, .lst 9 (List.map GBagEvent.lv p0)), (4, .L r1.1), (5, .I r1.2), (15, .bool (r1.2 != 0))] [] rfl ?_ ?_
  ·refine sMi rfl ?_
   refine sN (oNe rfl rfl ?_)
   exact s0 (Wk.eq rfl rfl rfl rfl)
  refine LH.cond (t := (r1.2 != 0)) rfl (fun hc2 => ?_) (fun hc2 => ?_)
  ·replace h := iteT h hc2
   refine LH.seqT [(2, .nil), (3, .I r1.2)] [] rfl ?_ ?_
   ·refine sMi rfl ?_
    refine sAn rfl ?_
    refine sAi rfl ?_
    exact s0 (Wk.eq rfl rfl rfl rfl)
   refine LH.ret ?_
   refine thenR ?_
   obtain rfl := Option.some.inj h
   exact retE (congrArg Array.toList Try.results11) (lrT rfl (lrT rfl (lr0 ⟨memN mN, rfl, prK rfl, (Sub.tup (sbL (sbR sbN)))⟩)))
  replace h := iteF h hc2
  refine LH.skip ?_
  refine thenN ?_
  obtain ⟨v3, hv3, h⟩ := bindS h
  refine LH.seqT [(0, .lst 9 (List.map GBagEvent.lv p0)), (4, .L r1.1), (6, .arr 119 (List.length v3))] [(119, .arr 34 9 (List.map GBagEvent.lv v3))] rfl ?_ ?_
  ·refine sMl rfl ?_
   refine sN (oLnL (f := LV.I) te22 rfl ?_)
   refine sX (ok_mkS (f := GBagEvent.lv) (z := (GBagEvent.mk (GStamp.mk 0 0 0) 0 0 0 0 0 [])) (id := 119) rfl te25 tz34 tr34 ts34 rfl rfl rfl (Sub.agg (sbR (sbR (sbR (sbR (sbR (sbR (sbR (sbR (sbL sbN)))))))))) GBagEvent.ok hv3 rfl) ?_
   refine sAa rfl ?_
   exact s0 (Wk.eq rfl rfl rfl rfl)
  refine LH.seq ?_
  refine LH.seqT [(0, .lst 9 (List.map GBagEvent.lv p0)), (6, .arr 119 (List.length v3)), (20, .L r1.1), (21, .I (r1.1.length : Int)), (22, .I 0)] [(119, .arr 34 9 (List.map GBagEvent.lv v3))] rfl ?_ ?_
  ·refine sMl rfl ?_
   refine sN (oLnL (f := LV.I) te22 rfl ?_)
   refine sMi rfl ?_
   exact s0 (Wk.eq rfl rfl rfl rfl)
  refine LH.block ?_
  refine LH.loop (fun n e m => ∃ (n4 : Int) (l5 : List GBagEvent), custody_Canonical_L1 p0 r1 n n4 l5 = some r ∧ e = Env.of [(0, .lst 9 (List.map GBagEvent.lv p0)), (6, .arr 119 (List.length l5)), (20, .L r1.1), (21, .I (r1.1.length : Int)), (22, .I n4)] ∧ m = Mem.of [(119, .arr 34 9 (List.map GBagEvent.lv l5))]) F ⟨0, v3, h, rfl, rfl⟩ ?_
  clear h
  rintro n e m ⟨n4, l5, h, rfl, rfl⟩
  rcases n with _ | n
  · cases (show Option.none = some _ from h)
  obtain ⟨rec1, hrec1⟩ : ∃ f, f = custody_Canonical_L1 p0 r1 n := ⟨_, rfl⟩
  replace h : custody_Canonical_L1_B p0 r1 rec1 n4 l5 = some r := hrec1 ▸ h
  unfold custody_Canonical_L1_B at h
  refine LH.seqT [(0, .lst 9 (List.map GBagEvent.lv p0)), (6, .arr 119 (List.length l5)), (20, .L r1.1), (21, .I (r1.1.length : Int)), (22, .I n4), (23, .bool (decide (n4 < (r1.1.length : Int))))] [(119, .arr 34 9 (List.map GBagEvent.lv l5))] rfl ?_ ?_
  ·refine sN (oLt rfl rfl ?_)
   exact s0 (Wk.eq rfl rfl rfl rfl)
  refine LH.seq ?_
  refine LH.cond (t := (decide (n4 < (r1.1.length : Int)))) rfl (fun hc6 => ?_) (fun hc6 => ?_)
  ·replace h := iteT h hc6
   refine LH.skip ?_
   refine thenN ?_
   refine LH.wk (Wk.eq (el := [(0, .lst 9 (List.map GBagEvent.lv p0)), (6, .arr 119 (List.length l5)), (20, .L r1.1), (21, .I (r1.1.length : Int)), (22, .I n4)]) (ml := [(119, .arr 34 9 (List.map GBagEvent.lv l5))]) rfl rfl rfl rfl) ?_
   refine LH.seq ?_
   refine LH.block ?_
   obtain ⟨x7, hx7, h⟩ := bindS h
   refine LH.seqT [(0, .lst 9 (List.map GBagEvent.lv p0)), (6, .arr 119 (List.length l5)), (7, .I n4), (8, .I x7), (20, .L r1.1), (21, .I (r1.1.length : Int)), (22, .I n4)] [(119, .arr 34 9 (List.map GBagEvent.lv l5))] rfl ?_ ?_
   ·refine sMi rfl ?_
    refine sN (oIx (f := LV.I) te22 tk3 ts3 rfl rfl okI hx7 rfl ?_)
    refine sN (oLd rfl tk3 ta3 ?_)
    refine sAi rfl ?_
    refine sAi rfl ?_
    exact s0 (Wk.eq rfl rfl rfl rfl)
   obtain ⟨x8, hx8, h⟩ := bindS h
   obtain ⟨x9, hx9, h⟩ := bindS h
   refine LH.seqT [(0, .lst 9 (List.map GBagEvent.lv p0)), (6, .arr 119 (List.length (l5.set n4.toNat x8))), (7, .I n4), (8, .I x7), (20, .L r1.1), (21, .I (r1.1.length : Int)), (22, .I n4)] [(119, .arr 34 9 (List.map GBagEvent.lv (l5.set n4.toNat x8)))] rfl ?_ ?_
   ·refine sMa rfl ?_
    refine sMi rfl ?_
    refine sMl rfl ?_
    refine sMi rfl ?_
    refine sN (oIx (f := GBagEvent.lv) te25 tk34 ts34 rfl rfl GBagEvent.ok hx8 rfl ?_)
    refine sN (oLdA rfl tk34 ta34 ts34 rfl rfl ?_)
    refine sN (oIxA (f := GBagEvent.lv) te25 tk34 ts34 rfl rfl rfl hx9 ?_)
    refine s_ (oStE (f := GBagEvent.lv) (z' := x8) rfl rfl rfl rfl tk34 ts34 rfl (idxOk hx9).2 rfl ?_)
    exact s0 (Wk.to (eC rfl (eC (congrArg (LV.arr 119) (by simp)) (eC rfl (eC rfl (eC rfl (eC rfl (eC rfl eN))))))) ⟨rfl, trivial⟩ rfl (prK rfl))
   obtain ⟨x10, hx10, h⟩ := bindS h
   obtain ⟨v11, hv11, h⟩ := bindS h
   obtain ⟨x12, hx12, h⟩ := bindS h
   refine LH.loneT [(0, .lst 9 (List.map GBagEvent.lv p0)), (6, .arr 119 (List.length ((l5.set n4.toNat x8).set n4.toNat (GBagEvent.mk x12.Stamp x12.Kind x12.Bag x12.Seal x12.From x12.To v11)))), (20, .L r1.1), (21, .I (r1.1.length : Int)), (22, .I n4)] [(119, .arr 34 9 (List.map GBagEvent.lv ((l5.set n4.toNat x8).set n4.toNat (GBagEvent.mk x12.Stamp x12.Kind x12.Bag x12.Seal x12.From x12.To v11))))] rfl ?_ ?_
   ·refine sMa rfl ?_
    refine sMi rfl ?_
    refine sMl rfl ?_
    refine sMi rfl ?_
    refine sN (oIx (f := GBagEvent.lv) te25 tk34 ts34 rfl rfl GBagEvent.ok hx10 rfl ?_)
    refine sN (oFaS tf34_6 tk22 ts22 rfl rfl rfl ?_)
    refine sN (oLd rfl tk22 ta22 ?_)
    refine sN (oCP (args := [.L x10.Candidates]) rfl isF34 rfl (sbR sbN) (LCall.frz (clone_ok (g := LV.I) cloneW34 rfl 141 hv11) rfl) rfl ?_)
    refine sN (oIxA (f := GBagEvent.lv) te25 tk34 ts34 rfl rfl rfl hx12 ?_)
    refine sN (oFaE (f := GBagEvent.lv) tf34_6 tk22 ts22 rfl rfl rfl ?_)
    refine s_ (oStE (f := GBagEvent.lv) (z' := (GBagEvent.mk x12.Stamp x12.Kind x12.Bag x12.Seal x12.From x12.To v11)) rfl rfl rfl rfl tk22 ts22 rfl (idxOk hx12).2 rfl ?_)
    exact s0 (Wk.to (eC rfl (eC (congrArg (LV.arr 119) (by simp)) (eC rfl (eC rfl (eC rfl eN))))) ⟨rfl, trivial⟩ rfl (prK rfl))
   refine blockN ?_
   refine thenN ?_
   refine LH.loneT [(0, .lst 9 (List.map GBagEvent.lv p0)), (6, .arr 119 (List.length ((l5.set n4.toNat x8).set n4.toNat (GBagEvent.mk x12.Stamp x12.Kind x12.Bag x12.Seal x12.From x12.To v11)))), (20, .L r1.1), (21, .I (r1.1.length : Int)), (22, .I (i64 (n4 + 1)))] [(119, .arr 34 9 (List.map GBagEvent.lv ((l5.set n4.toNat x8).set n4.toNat (GBagEvent.mk x12.Stamp x12.Kind x12.Bag x12.Seal x12.From x12.To v11))))] rfl ?_ ?_
   ·refine sN (oAdd rfl rfl ?_)
    refine sMi rfl ?_
    exact s0 (Wk.eq rfl rfl rfl rfl)
   exact roundI ⟨(i64 (n4 + 1)), ((l5.set n4.toNat x8).set n4.toNat (GBagEvent.mk x12.Stamp x12.Kind x12.Bag x12.Seal x12.From x12.To v11)), hrec1 ▸ h, rfl, rfl⟩ (Wk.eq rfl rfl rfl rfl)
  replace h := iteF h hc6
  refine LH.exit ?_
  refine thenX ?_
  refine roundX ?_
  refine blockH ?_
  refine thenN ?_
  refine LH.wk ((Wk.trans (Wk.eq (el := [(6, .arr 119 (List.length l5))]) (ml := [(119, .arr 34 9 (List.map GBagEvent.lv l5))]) rfl rfl rfl rfl) (Wk.trans (Wk.frzL (f := GBagEvent.lv) (el' := [(6, .lst 9 (List.map GBagEvent.lv l5))]) 119 34 9 l5 rfl rfl (prN rfl) (fZ fN)) (Wk.eq (el := [(6, .lst 9 (List.map GBagEvent.lv l5))]) (ml := []) rfl rfl rfl rfl)))) ?_
  refine LH.seqT [(2, .lst 9 (List.map GBagEvent.lv l5)), (3, .I 0)] [] rfl ?_ ?_
  ·refine sMl rfl ?_
   refine sAl rfl ?_
   refine sAi rfl ?_
   exact s0 (Wk.eq rfl rfl rfl rfl)
  refine LH.ret ?_
  obtain rfl := Option.some.inj h
  exact retE (congrArg Array.toList Try.results11) (lrT rfl (lrT rfl (lr0 ⟨memN mN, rfl, prK rfl, (Sub.tup (sbR (sbR sbN)))⟩)))

theorem ref06_Ints_ok {F : Nat} {p0 : List Int} {p1 : List Int} {r : Bool} (h : ref06_Ints F p0 p1 = some r) : LCall Try.prog 26 [.L p0, .L p1] (Mem.of []) (.bool r) (Mem.of []) := by
  unfold ref06_Ints at h
  refine bodyT Try.func26 rfl (by rw [Try.ntmps26]; exact Nat.le_of_ble_eq_true rfl) ?_
  refine LH.wk (Wk.eq (el := [(0, .L p0), (1, .L p1)]) (ml := []) rfl rfl rfl rfl) ?_
  refine LH.seqT [(0, .L p0), (1, .L p1)] [] rfl ?_ ?_
  ·refine sAb rfl ?_
   exact s0 (Wk.eq rfl rfl rfl rfl)
  refine LH.seq ?_
  refine LH.seqT [(0, .L p0), (1, .L p1), (10, .bool ((p0.length : Int) != (p1.length : Int)))] [] rfl ?_ ?_
  ·refine sMl rfl ?_
   refine sN (oLnL (f := LV.I) te22 rfl ?_)
   refine sMl rfl ?_
   refine sN (oLnL (f := LV.I) te22 rfl ?_)
   refine sN (oNe rfl rfl ?_)
   exact s0 (Wk.eq rfl rfl rfl rfl)
  refine LH.cond (t := ((p0.length : Int) != (p1.length : Int))) rfl (fun hc1 => ?_) (fun hc1 => ?_)
  ·replace h := iteT h hc1
   refine LH.seqT [(4, .bool false)] [] rfl ?_ ?_
   ·refine sAb rfl ?_
    exact s0 (Wk.eq rfl rfl rfl rfl)
   refine LH.ret ?_
   refine thenR ?_
   obtain rfl := Option.some.inj h
   exact retE (congrArg Array.toList Try.results26) (lrT rfl (lr0 ⟨memN mN, rfl, prK rfl, Sub.rfl⟩))
  replace h := iteF h hc1
  refine LH.skip ?_
  refine thenN ?_
  refine LH.wk (Wk.eq (el := [(0, .L p0), (1, .L p1)]) (ml := []) rfl rfl rfl rfl) ?_
  refine LH.seq ?_
  refine LH.seqT [(0, .L p0), (1, .L p1), (5, .I 0)] [] rfl ?_ ?_
  ·refine sAi rfl ?_
   exact s0 (Wk.eq rfl rfl rfl rfl)
  refine LH.block ?_
  refine LH.loop (fun n e m => ∃ (n2 : Int), ref06_Ints_L1 p0 p1 n n2 = some r ∧ e = Env.of [(0, .L p0), (1, .L p1), (5, .I n2)] ∧ m = Mem.of []) F ⟨0, h, rfl, rfl⟩ ?_
  clear h
  rintro n e m ⟨n2, h, rfl, rfl⟩
  rcases n with _ | n
  · cases (show Option.none = some _ from h)
  obtain ⟨rec1, hrec1⟩ : ∃ f, f = ref06_Ints_L1 p0 p1 n := ⟨_, rfl⟩
  replace h : ref06_Ints_L1_B p0 p1 rec1 n2 = some r := hrec1 ▸ h
  unfold ref06_Ints_L1_B at h
  refine LH.seq ?_
  refine LH.seqT [(0, .L p0), (1, .L p1), (5, .I n2), (14, .bool (decide (n2 < (p0.length : Int))))] [] rfl ?_ ?_
  ·refine sMi rfl ?_
   refine sMl rfl ?_
   refine sN (oLnL (f := LV.I) te22 rfl ?_)
   refine sN (oLt rfl rfl ?_)
   exact s0 (Wk.eq rfl rfl rfl rfl)
  refine LH.cond (t := (decide (n2 < (p0.length : Int)))) rfl (fun hc3 => ?_) (fun hc3 => ?_)
  ·replace h := iteT h hc3
   refine LH.skip ?_
   refine thenN ?_
   refine LH.wk (Wk.eq (el := [(0, .L p0), (1, .L p1), (5, .I n2)]) (ml := []) rfl rfl rfl rfl) ?_
   refine LH.seq ?_
   refine LH.block ?_
   obtain ⟨x4, hx4, h⟩ := bindS h
   obtain ⟨x5, hx5, h⟩ := bindS h
   refine LH.seqJM mixed [] [0, 0, 0, 0, 0, 0, 0, 0, 0] [(0, .L p0), (1, .L p1), (5, .I n2), (25, .bool (x4 != x5))] [] rfl rfl (by kernel_rfl) ?_ ?_
   ·refine mN0 (oM (v := (.lst _ _)) rfl ⟨rfl, ?_⟩)
    refine mN0 (oM (v := (.int _ _)) rfl ⟨rfl, ?_⟩)
    refine mN0 (oIx (f := LV.I) te22 tk3 ts3 rfl rfl okI hx4 rfl ⟨rfl, ?_⟩)
    refine mN0 (oLd rfl tk3 ta3 ⟨rfl, ?_⟩)
    refine mN0 (oM (v := (.lst _ _)) rfl ⟨rfl, ?_⟩)
    refine mN0 (oM (v := (.int _ _)) rfl ⟨rfl, ?_⟩)
    refine mN0 (oIx (f := LV.I) te22 tk3 ts3 rfl rfl okI hx5 rfl ⟨rfl, ?_⟩)
    refine mN0 (oLd rfl tk3 ta3 ⟨rfl, ?_⟩)
    refine mN0 (oNe rfl rfl ⟨rfl, ?_⟩)
    exact m0 (Wk.eq rfl rfl rfl rfl)
   refine LH.cond (t := (x4 != x5)) rfl (fun hc6 => ?_) (fun hc6 => ?_)
   ·replace h := iteT h hc6
    refine LH.seqT [(4, .bool false)] [] rfl ?_ ?_
    ·refine sAb rfl ?_
     exact s0 (Wk.eq rfl rfl rfl rfl)
    refine LH.ret ?_
    refine blockR ?_
    refine thenR ?_
    refine roundR ?_
    refine blockR ?_
    refine thenR ?_
    obtain rfl := Option.some.inj h
    exact retE (congrArg Array.toList Try.results26) (lrT rfl (lr0 ⟨memN mN, rfl, prK rfl, Sub.rfl⟩))
   replace h := iteF h hc6
   refine LH.skip ?_
   refine blockN ?_
   refine thenN ?_
   refine LH.loneT [(0, .L p0), (1, .L p1), (5, .I (i64 (n2 + 1)))] [] rfl ?_ ?_
   ·refine sMi rfl ?_
    refine sN (oAdd rfl rfl ?_)
    refine sAi rfl ?_
    exact s0 (Wk.eq rfl rfl rfl rfl)
   exact roundI ⟨(i64 (n2 + 1)), hrec1 ▸ h, rfl, rfl⟩ (Wk.eq rfl rfl rfl rfl)
  replace h := iteF h hc3
  refine LH.exit ?_
  refine thenX ?_
  refine roundX ?_
  refine blockH ?_
  refine thenN ?_
  refine LH.seqT [(4, .bool true)] [] rfl ?_ ?_
  ·refine sAb rfl ?_
   exact s0 (Wk.eq rfl rfl rfl rfl)
  refine LH.ret ?_
  obtain rfl := Option.some.inj h
  exact retE (congrArg Array.toList Try.results26) (lrT rfl (lr0 ⟨memN mN, rfl, prK rfl, Sub.rfl⟩))

theorem slices_BinarySearchFunc_Bag_Bag_int_ok {F : Nat} {p0 : List GBag} {p1 : Int} {p2 : (GBag → Int → Option Int)} {r : Int × Bool} {p2_f : Nat} {p2_c : List LV} (p2_i : IsF Try.prog p2_f) (p2_q : LV.pureL p2_c = true) (p2_k : ∀ (x0 : GBag) (x1 : Int) (q : Int), p2 x0 x1 = some q → LCall Try.prog p2_f ([.agg [.I x0.Bag, .I x0.Holder, .bool x0.Open, .L x0.Seals, .L x0.Packed, .L x0.Found], .I x1] ++ p2_c) (Mem.of []) (.I q) (Mem.of [])) (h : slices_BinarySearchFunc_Bag_Bag_int F p0 p1 p2 = some r) : LCall Try.prog 50 [.lst 6 (List.map GBag.lv p0), .I p1, .fn p2_f p2_c] (Mem.of []) (.tup [.I r.1, .bool r.2]) (Mem.of []) := by
  have p2_p : ∀ {l : List LV}, LV.pureL l = true → LV.pureL (l ++ p2_c) = true := pnC p2_q
  have p2_r : LV.refsL p2_c = [] := refsL_pure p2_q
  unfold slices_BinarySearchFunc_Bag_Bag_int at h
  refine bodyT Try.func50 rfl (by rw [Try.ntmps50]; exact Nat.le_of_ble_eq_true rfl) ?_
  refine LH.wk (Wk.to (el := [(0, .lst 6 (List.map GBag.lv p0)), (1, .I p1), (2, .fn p2_f p2_c)]) (ml := []) (eQ ⟨rfl, rfl, rfl, trivial⟩) mN (by simp [keptRefs, LV.refs, LV.refsL, LV.cells, lev, Env.args, Env.of, Env.put, Env.drop, p2_r]) (prK rfl)) ?_
  refine LH.seqT [(0, .lst 6 (List.map GBag.lv p0)), (1, .I p1), (2, .fn p2_f p2_c)] [] rfl ?_ ?_
  ·refine sAi rfl ?_
   refine sAb rfl ?_
   exact s0 (Wk.to (eQ ⟨rfl, rfl, rfl, trivial⟩) mN (by simp [keptRefs, LV.refs, LV.refsL, LV.cells, lev, Env.args, Env.of, Env.put, Env.drop, p2_r]) (prK rfl))
  refine LH.seqT [(0, .lst 6 (List.map GBag.lv p0)), (1, .I p1), (2, .fn p2_f p2_c), (8, .I (p0.length : Int))] [] rfl ?_ ?_
  ·refine sMl rfl ?_
   refine sN (oLnL (f := GBag.lv) te39 rfl ?_)
   refine sAi rfl ?_
   exact s0 (Wk.to (eQ ⟨rfl, rfl, rfl, rfl, trivial⟩) mN (by simp [keptRefs, LV.refs, LV.refsL, LV.cells, lev, Env.args, Env.of, Env.put, Env.drop, p2_r]) (prK rfl))
  refine LH.seqT [(0, .lst 6 (List.map GBag.lv p0)), (1, .I p1), (2, .fn p2_f p2_c), (8, .I (p0.length : Int)), (9, .I 0), (10, .I (p0.length : Int))] [] rfl ?_ ?_
  ·refine sMi rfl ?_
   refine sAi rfl ?_
   refine sAi rfl ?_
   exact s0 (Wk.to (eQ ⟨rfl, rfl, rfl, rfl, rfl, rfl, trivial⟩) mN (by simp [keptRefs, LV.refs, LV.refsL, LV.cells, lev, Env.args, Env.of, Env.put, Env.drop, p2_r]) (prK rfl))
  refine LH.seq ?_
  refine LH.block ?_
  refine LH.loop (fun n e m => ∃ (n1 : Int) (n2 : Int), slices_BinarySearchFunc_Bag_Bag_int_L1 p0 p1 p2 n n1 n2 = some r ∧ e = Env.of [(0, .lst 6 (List.map GBag.lv p0)), (1, .I p1), (2, .fn p2_f p2_c), (8, .I (p0.length : Int)), (9, .I n1), (10, .I n2)] ∧ m = Mem.of []) F ⟨0, (p0.length : Int), h, rfl, rfl⟩ ?_
  clear h
  rintro n e m ⟨n1, n2, h, rfl, rfl⟩
  rcases n with _ | n
  · cases (show Option.none = some _ from h)
  obtain ⟨rec1, hrec1⟩ : ∃ f, f = slices_BinarySearchFunc_Bag_Bag_int_L1 p0 p1 p2 n := ⟨_, rfl⟩
  replace h : slices_BinarySearchFunc_Bag_Bag_int_L1_B p0 p1 p2 rec1 n1 n2 = some r := hrec1 ▸ h
  unfold slices_BinarySearchFunc_Bag_Bag_int_L1_B at h
  refine LH.seq ?_
  refine LH.seqT [(0, .lst 6 (List.map GBag.lv p0)), (1, .I p1), (2, .fn p2_f p2_c), (8, .I (p0.length : Int)), (9, .I n1), (10, .I n2), (17, .bool (decide (n1 < n2)))] [] rfl ?_ ?_
  ·refine sMi rfl ?_
   refine sMi rfl ?_
   refine sN (oLt rfl rfl ?_)
   exact s0 (Wk.to (eQ ⟨rfl, rfl, rfl, rfl, rfl, rfl, rfl, trivial⟩) mN (by simp [keptRefs, LV.refs, LV.refsL, LV.cells, lev, Env.args, Env.of, Env.put, Env.drop, p2_r]) (prK rfl))
  refine LH.cond (t := (decide (n1 < n2))) rfl (fun hc3 => ?_) (fun hc3 => ?_)
  ·replace h := iteT h hc3
   refine LH.skip ?_
   refine thenN ?_
   refine LH.wk (Wk.to (el := [(0, .lst 6 (List.map GBag.lv p0)), (1, .I p1), (2, .fn p2_f p2_c), (8, .I (p0.length : Int)), (9, .I n1), (10, .I n2)]) (ml := []) (eQ ⟨rfl, rfl, rfl, rfl, rfl, rfl, trivial⟩) mN (by simp [keptRefs, LV.refs, LV.refsL, LV.cells, lev, Env.args, Env.of, Env.put, Env.drop, p2_r]) (prK rfl)) ?_
   refine LH.block ?_
   refine LH.seqT [(0, .lst 6 (List.map GBag.lv p0)), (1, .I p1), (2, .fn p2_f p2_c), (8, .I (p0.length : Int)), (9, .I n1), (10, .I n2), (11, .I (i64 (shrI .u64 (IntKind.u64.wrap (i64 (n1 + n2))) 1)))] [] rfl ?_ ?_
   ·refine sMi rfl ?_
    refine sMi rfl ?_
    refine sN (oAdd rfl rfl ?_)
    refine sN (oCv tk3 ti103 rfl ?_)
    refine sX ((ok_shr rfl rfl (by decide)).ok) ?_
    refine sN (oCv tk103 ti3 rfl ?_)
    refine sAi rfl ?_
    exact s0 (Wk.to (eQ ⟨rfl, rfl, rfl, rfl, rfl, rfl, rfl, trivial⟩) mN (by simp [keptRefs, LV.refs, LV.refsL, LV.cells, lev, Env.args, Env.of, Env.put, Env.drop, p2_r]) (prK rfl))
   obtain ⟨x4, hx4, h⟩ := bindS h
   obtain ⟨r5, hr5, h⟩ := bindS h
   refine LH.seqT [(0, .lst 6 (List.map GBag.lv p0)), (1, .I p1), (2, .fn p2_f p2_c), (8, .I (p0.length : Int)), (9, .I n1), (10, .I n2), (11, .I (i64 (shrI .u64 (IntKind.u64.wrap (i64 (n1 + n2))) 1))), (31, .bool (decide (r5 < 0)))] [] rfl ?_ ?_
   ·refine sN (oM (v := (.fn _ _)) rfl ?_)
    refine sMl rfl ?_
    refine sMi rfl ?_
    refine sN (oIx (f := GBag.lv) te39 tk46 ts46 rfl rfl GBag.ok hx4 rfl ?_)
    refine sN (oLdA rfl tk46 ta46 ts46 rfl rfl ?_)
    refine sMi rfl ?_
    refine sN (oCP (args := [.agg [.I x4.Bag, .I x4.Holder, .bool x4.Open, .L x4.Seals, .L x4.Packed, .L x4.Found], .I p1] ++ p2_c) (args' := [.agg [.I x4.Bag, .I x4.Holder, .bool x4.Open, .L x4.Seals, .L x4.Packed, .L x4.Found], .I p1] ++ p2_c) rfl p2_i rfl SubL.rfl (p2_k _ _ _ hr5) (p2_p rfl) ?_)
    refine sN (oLt rfl rfl ?_)
    exact s0 (Wk.to (eQ ⟨rfl, rfl, rfl, rfl, rfl, rfl, rfl, rfl, trivial⟩) mN (by simp [keptRefs, LV.refs, LV.refsL, LV.cells, lev, Env.args, Env.of, Env.put, Env.drop, p2_r]) (prK rfl))
   refine LH.cond (t := (decide (r5 < 0))) rfl (fun hc6 => ?_) (fun hc6 => ?_)
   ·replace h := iteT h hc6
    refine LH.loneT [(0, .lst 6 (List.map GBag.lv p0)), (1, .I p1), (2, .fn p2_f p2_c), (8, .I (p0.length : Int)), (9, .I (i64 ((i64 (shrI .u64 (IntKind.u64.wrap (i64 (n1 + n2))) 1)) + 1))), (10, .I n2)] [] rfl ?_ ?_
    ·refine sMi rfl ?_
     refine sN (oAdd rfl rfl ?_)
     refine sAi rfl ?_
     exact s0 (Wk.to (eQ ⟨rfl, rfl, rfl, rfl, rfl, rfl, trivial⟩) mN (by simp [keptRefs, LV.refs, LV.refsL, LV.cells, lev, Env.args, Env.of, Env.put, Env.drop, p2_r]) (prK rfl))
    refine blockN ?_
    exact roundI ⟨(i64 ((i64 (shrI .u64 (IntKind.u64.wrap (i64 (n1 + n2))) 1)) + 1)), n2, hrec1 ▸ h, rfl, rfl⟩ (Wk.to (eQ ⟨rfl, rfl, rfl, rfl, rfl, rfl, trivial⟩) mN (by simp [keptRefs, LV.refs, LV.refsL, LV.cells, lev, Env.args, Env.of, Env.put, Env.drop, p2_r]) (prK rfl))
   replace h := iteF h hc6
   refine LH.loneT [(0, .lst 6 (List.map GBag.lv p0)), (1, .I p1), (2, .fn p2_f p2_c), (8, .I (p0.length : Int)), (9, .I n1), (10, .I (i64 (shrI .u64 (IntKind.u64.wrap (i64 (n1 + n2))) 1)))] [] rfl ?_ ?_
   ·refine sMi rfl ?_
    refine sAi rfl ?_
    exact s0 (Wk.to (eQ ⟨rfl, rfl, rfl, rfl, rfl, rfl, trivial⟩) mN (by simp [keptRefs, LV.refs, LV.refsL, LV.cells, lev, Env.args, Env.of, Env.put, Env.drop, p2_r]) (prK rfl))
   refine blockN ?_
   exact roundI ⟨n1, (i64 (shrI .u64 (IntKind.u64.wrap (i64 (n1 + n2))) 1)), hrec1 ▸ h, rfl, rfl⟩ (Wk.to (eQ ⟨rfl, rfl, rfl, rfl, rfl, rfl, trivial⟩) mN (by simp [keptRefs, LV.refs, LV.refsL, LV.cells, lev, Env.args, Env.of, Env.put, Env.drop, p2_r]) (prK rfl))
  replace h := iteF h hc3
  refine LH.exit ?_
  refine thenX ?_
  refine roundX ?_
  refine blockH ?_
  refine thenN ?_
  obtain ⟨w8, hv, h⟩ := bindS h
  refine LH.seqT [(6, .I n1), (7, .bool w8)] [] rfl ?_ ?_
  ·refine sMi rfl ?_
   refine sMi rfl ?_
   refine sMi rfl ?_
   refine sN (oLt rfl rfl ?_)
   refine sMb rfl ?_
   by_cases hb9 : (decide (n1 < (p0.length : Int))) = true
   ·replace hv := iteT hv hb9
    refine sT rfl (congrArg LV.bool hb9) (oM (v := (.fn _ _)) rfl ?_)
    refine sT rfl (congrArg LV.bool hb9) (oM (v := (.lst _ _)) rfl ?_)
    refine sT rfl (congrArg LV.bool hb9) (oM (v := (.int _ _)) rfl ?_)
    obtain ⟨x10, hx10, hv⟩ := bindS hv
    refine sT rfl (congrArg LV.bool hb9) (oIx (f := GBag.lv) te39 tk46 ts46 rfl rfl GBag.ok hx10 rfl ?_)
    refine sT rfl (congrArg LV.bool hb9) (oLdA rfl tk46 ta46 ts46 rfl rfl ?_)
    refine sT rfl (congrArg LV.bool hb9) (oM (v := (.int _ _)) rfl ?_)
    obtain ⟨r11, hr11, hv⟩ := bindS hv
    refine sT rfl (congrArg LV.bool hb9) (oCP (args := [.agg [.I x10.Bag, .I x10.Holder, .bool x10.Open, .L x10.Seals, .L x10.Packed, .L x10.Found], .I p1] ++ p2_c) (args' := [.agg [.I x10.Bag, .I x10.Holder, .bool x10.Open, .L x10.Seals, .L x10.Packed, .L x10.Found], .I p1] ++ p2_c) rfl p2_i rfl SubL.rfl (p2_k _ _ _ hr11) (p2_p rfl) ?_)
    refine sT rfl (congrArg LV.bool hb9) (oEq rfl rfl ?_)
    refine sN (oPkT (congrArg LV.bool hb9) (v := (.bool _)) rfl ?_)
    refine sAi rfl ?_
    refine sAb rfl ?_
    obtain rfl := Option.some.inj hv
    exact s0 (Wk.to (eQ ⟨rfl, rfl, trivial⟩) mN (by simp [keptRefs, LV.refs, LV.refsL, LV.cells, lev, Env.args, Env.of, Env.put, Env.drop, p2_r]) (prK rfl))
   ·replace hb9 := bF hb9
    replace hv := iteF hv hb9
    refine sF rfl rfl hb9 ?_
    refine sF rfl rfl hb9 ?_
    refine sF rfl rfl hb9 ?_
    refine sF rfl rfl hb9 ?_
    refine sF rfl rfl hb9 ?_
    refine sF rfl rfl hb9 ?_
    refine sF rfl rfl hb9 ?_
    refine sF rfl rfl hb9 ?_
    refine sN (oPkF (congrArg LV.bool hb9) (v := (.bool _)) rfl ?_)
    refine sAi rfl ?_
    refine sAb rfl ?_
    obtain rfl := Option.some.inj hv
    exact s0 (Wk.to (eQ ⟨rfl, rfl, trivial⟩) mN (by simp [keptRefs, LV.refs, LV.refsL, LV.cells, lev, Env.args, Env.of, Env.put, Env.drop, p2_r]) (prK rfl))
  clear hv
  refine LH.ret ?_
  obtain rfl := Option.some.inj h
  exact retE (congrArg Array.toList Try.results50) (lrT rfl (lrT rfl (lr0 ⟨memN mN, rfl, prK rfl, (Sub.tup (sbR (sbR sbN)))⟩)))

theorem custody_step_1_ok {p0 : GBag} {p1 : Int} {r : Int} (h : custody_step_1 p0 p1 = some r) : LCall Try.prog 51 [.agg [.I p0.Bag, .I p0.Holder, .bool p0.Open, .L p0.Seals, .L p0.Packed, .L p0.Found], .I p1] (Mem.of []) (.I r) (Mem.of []) := by
  unfold custody_step_1 at h
  refine bodyT Try.func51 rfl (by rw [Try.ntmps51]; exact Nat.le_of_ble_eq_true rfl) ?_
  refine LH.wk (Wk.eq (el := [(0, .agg [.I p0.Bag, .I p0.Holder, .bool p0.Open, .L p0.Seals, .L p0.Packed, .L p0.Found]), (1, .I p1)]) (ml := []) rfl rfl rfl rfl) ?_
  refine LH.seqT [(1, .I p1), (2, .sptr [.I p0.Bag, .I p0.Holder, .bool p0.Open, .L p0.Seals, .L p0.Packed, .L p0.Found])] [] rfl ?_ ?_
  ·refine sB (oBxR rfl rfl rfl rfl ?_)
   refine sAi rfl ?_
   exact s0 (Wk.eq rfl rfl rfl rfl)
  obtain ⟨r1, hr1, h⟩ := bindS h
  refine LH.seqT [(4, .I r1)] [] rfl ?_ ?_
  ·refine sN (oFaS tf46_0 tk3 ts3 rfl rfl rfl ?_)
   refine sN (oLd rfl tk3 ta3 ?_)
   refine sMi rfl ?_
   refine sN (oCP (args := [.I p0.Bag, .I p1]) rfl isF52 rfl (sbR (sbR sbN)) (cmp_Compare_int_ok hr1) rfl ?_)
   refine sAi rfl ?_
   exact s0 (Wk.eq rfl rfl rfl rfl)
  refine LH.ret ?_
  obtain rfl := Option.some.inj h
  exact retE (congrArg Array.toList Try.results51) (lrT rfl (lr0 ⟨memN mN, rfl, prK rfl, Sub.rfl⟩))

theorem custody_isBag_ok {p0 : Int} {r : Bool} (h : custody_isBag p0 = some r) : LCall Try.prog 61 [.I p0] (Mem.of []) (.bool r) (Mem.of []) := by
  unfold custody_isBag at h
  refine bodyT Try.func61 rfl (by rw [Try.ntmps61]; exact Nat.le_of_ble_eq_true rfl) ?_
  refine LH.wk (Wk.eq (el := [(0, .I p0)]) (ml := []) rfl rfl rfl rfl) ?_
  refine LH.seqT [(0, .I p0)] [] rfl ?_ ?_
  ·refine sAb rfl ?_
   exact s0 (Wk.eq rfl rfl rfl rfl)
  refine LH.seqT [(2, .bool ((decide (p0 ≥ 0)) && (decide (p0 ≤ 9999))))] [] rfl ?_ ?_
  ·refine sMi rfl ?_
   refine sN (oGe rfl rfl ?_)
   refine sMb rfl ?_
   by_cases hb2 : (decide (p0 ≥ 0)) = true
   ·refine sT rfl (congrArg LV.bool hb2) (oM (v := (.int _ _)) rfl ?_)
    refine sT rfl (congrArg LV.bool hb2) (oLe rfl rfl ?_)
    refine sN (oPkT (congrArg LV.bool hb2) (v := (.bool _)) rfl ?_)
    refine sAb rfl ?_
    exact s0 (Wk.to (eC (congrArg LV.bool (andT hb2)) eN) mN rfl (prK rfl))
   ·replace hb2 := bF hb2
    refine sF rfl rfl hb2 ?_
    refine sF rfl rfl hb2 ?_
    refine sN (oPkF (congrArg LV.bool hb2) (v := (.bool _)) rfl ?_)
    refine sAb rfl ?_
    exact s0 (Wk.to (eC (congrArg LV.bool (andF hb2)) eN) mN rfl (prK rfl))
  refine LH.ret ?_
  obtain rfl := Option.some.inj h
  exact retE (congrArg Array.toList Try.results61) (lrT rfl (lr0 ⟨memN mN, rfl, prK rfl, Sub.rfl⟩))

theorem custody_isSeal_ok {p0 : Int} {r : Bool} (h : custody_isSeal p0 = some r) : LCall Try.prog 65 [.I p0] (Mem.of []) (.bool r) (Mem.of []) := by
  unfold custody_isSeal at h
  refine bodyT Try.func65 rfl (by rw [Try.ntmps65]; exact Nat.le_of_ble_eq_true rfl) ?_
  refine LH.wk (Wk.eq (el := [(0, .I p0)]) (ml := []) rfl rfl rfl rfl) ?_
  refine LH.seqT [(0, .I p0)] [] rfl ?_ ?_
  ·refine sAb rfl ?_
   exact s0 (Wk.eq rfl rfl rfl rfl)
  refine LH.seqT [(2, .bool ((decide (p0 ≥ 0)) && (decide (p0 ≤ 1000000))))] [] rfl ?_ ?_
  ·refine sMi rfl ?_
   refine sN (oGe rfl rfl ?_)
   refine sMb rfl ?_
   by_cases hb2 : (decide (p0 ≥ 0)) = true
   ·refine sT rfl (congrArg LV.bool hb2) (oM (v := (.int _ _)) rfl ?_)
    refine sT rfl (congrArg LV.bool hb2) (oLe rfl rfl ?_)
    refine sN (oPkT (congrArg LV.bool hb2) (v := (.bool _)) rfl ?_)
    refine sAb rfl ?_
    exact s0 (Wk.to (eC (congrArg LV.bool (andT hb2)) eN) mN rfl (prK rfl))
   ·replace hb2 := bF hb2
    refine sF rfl rfl hb2 ?_
    refine sF rfl rfl hb2 ?_
    refine sN (oPkF (congrArg LV.bool hb2) (v := (.bool _)) rfl ?_)
    refine sAb rfl ?_
    exact s0 (Wk.to (eC (congrArg LV.bool (andF hb2)) eN) mN rfl (prK rfl))
  refine LH.ret ?_
  obtain rfl := Option.some.inj h
  exact retE (congrArg Array.toList Try.results65) (lrT rfl (lr0 ⟨memN mN, rfl, prK rfl, Sub.rfl⟩))

theorem custody_isHolder_ok {p0 : Int} {r : Bool} (h : custody_isHolder p0 = some r) : LCall Try.prog 62 [.I p0] (Mem.of []) (.bool r) (Mem.of []) := by
  unfold custody_isHolder at h
  refine bodyT Try.func62 rfl (by rw [Try.ntmps62]; exact Nat.le_of_ble_eq_true rfl) ?_
  refine LH.wk (Wk.eq (el := [(0, .I p0)]) (ml := []) rfl rfl rfl rfl) ?_
  refine LH.seqT [(0, .I p0)] [] rfl ?_ ?_
  ·refine sAb rfl ?_
   exact s0 (Wk.eq rfl rfl rfl rfl)
  refine LH.seqT [(2, .bool ((decide (p0 ≥ 0)) && (decide (p0 ≤ 99))))] [] rfl ?_ ?_
  ·refine sMi rfl ?_
   refine sN (oGe rfl rfl ?_)
   refine sMb rfl ?_
   by_cases hb2 : (decide (p0 ≥ 0)) = true
   ·refine sT rfl (congrArg LV.bool hb2) (oM (v := (.int _ _)) rfl ?_)
    refine sT rfl (congrArg LV.bool hb2) (oLe rfl rfl ?_)
    refine sN (oPkT (congrArg LV.bool hb2) (v := (.bool _)) rfl ?_)
    refine sAb rfl ?_
    exact s0 (Wk.to (eC (congrArg LV.bool (andT hb2)) eN) mN rfl (prK rfl))
   ·replace hb2 := bF hb2
    refine sF rfl rfl hb2 ?_
    refine sF rfl rfl hb2 ?_
    refine sN (oPkF (congrArg LV.bool hb2) (v := (.bool _)) rfl ?_)
    refine sAb rfl ?_
    exact s0 (Wk.to (eC (congrArg LV.bool (andF hb2)) eN) mN rfl (prK rfl))
  refine LH.ret ?_
  obtain rfl := Option.some.inj h
  exact retE (congrArg Array.toList Try.results62) (lrT rfl (lr0 ⟨memN mN, rfl, prK rfl, Sub.rfl⟩))

theorem custody_sorted_ok {F : Nat} {p0 : List Int} {r : Bool} (h : custody_sorted F p0 = some r) : LCall Try.prog 41 [.L p0] (Mem.of []) (.bool r) (Mem.of []) := by
  unfold custody_sorted at h
  refine bodyT Try.func41 rfl (by rw [Try.ntmps41]; exact Nat.le_of_ble_eq_true rfl) ?_
  refine LH.wk (Wk.eq (el := [(0, .L p0)]) (ml := []) rfl rfl rfl rfl) ?_
  refine LH.seqT [(0, .L p0)] [] rfl ?_ ?_
  ·refine sAb rfl ?_
   exact s0 (Wk.eq rfl rfl rfl rfl)
  refine LH.seq ?_
  refine LH.seqT [(0, .L p0), (7, .bool (decide ((p0.length : Int) > 60)))] [] rfl ?_ ?_
  ·refine sMl rfl ?_
   refine sN (oLnL (f := LV.I) te22 rfl ?_)
   refine sN (oGt rfl rfl ?_)
   exact s0 (Wk.eq rfl rfl rfl rfl)
  refine LH.cond (t := (decide ((p0.length : Int) > 60))) rfl (fun hc1 => ?_) (fun hc1 => ?_)
  ·replace h := iteT h hc1
   refine LH.seqT [(2, .bool false)] [] rfl ?_ ?_
   ·refine sAb rfl ?_
    exact s0 (Wk.eq rfl rfl rfl rfl)
   refine LH.ret ?_
   refine thenR ?_
   obtain rfl := Option.some.inj h
   exact retE (congrArg Array.toList Try.results41) (lrT rfl (lr0 ⟨memN mN, rfl, prK rfl, Sub.rfl⟩))
  replace h := iteF h hc1
  refine LH.skip ?_
  refine thenN ?_
  refine LH.wk (Wk.eq (el := [(0, .L p0)]) (ml := []) rfl rfl rfl rfl) ?_
  refine LH.seq ?_
  refine LH.seqT [(0, .L p0), (8, .L p0), (9, .I (p0.length : Int)), (10, .I 0)] [] rfl ?_ ?_
  ·refine sMl rfl ?_
   refine sN (oLnL (f := LV.I) te22 rfl ?_)
   refine sMi rfl ?_
   exact s0 (Wk.eq rfl rfl rfl rfl)
  refine LH.block ?_
  refine LH.loop (fun n e m => ∃ (n2 : Int), custody_sorted_L1 p0 n n2 = some r ∧ e = Env.of [(0, .L p0), (8, .L p0), (9, .I (p0.length : Int)), (10, .I n2)] ∧ m = Mem.of []) F ⟨0, h, rfl, rfl⟩ ?_
  clear h
  rintro n e m ⟨n2, h, rfl, rfl⟩
  rcases n with _ | n
  · cases (show Option.none = some _ from h)
  obtain ⟨rec1, hrec1⟩ : ∃ f, f = custody_sorted_L1 p0 n := ⟨_, rfl⟩
  replace h : custody_sorted_L1_B p0 rec1 n2 = some r := hrec1 ▸ h
  unfold custody_sorted_L1_B at h
  refine LH.seqT [(0, .L p0), (8, .L p0), (9, .I (p0.length : Int)), (10, .I n2), (11, .bool (decide (n2 < (p0.length : Int))))] [] rfl ?_ ?_
  ·refine sN (oLt rfl rfl ?_)
   exact s0 (Wk.eq rfl rfl rfl rfl)
  refine LH.seq ?_
  refine LH.cond (t := (decide (n2 < (p0.length : Int)))) rfl (fun hc3 => ?_) (fun hc3 => ?_)
  ·replace h := iteT h hc3
   refine LH.skip ?_
   refine thenN ?_
   refine LH.wk (Wk.eq (el := [(0, .L p0), (8, .L p0), (9, .I (p0.length : Int)), (10, .I n2)]) (ml := []) rfl rfl rfl rfl) ?_
   refine LH.seq ?_
   refine LH.block ?_
   obtain ⟨x4, hx4, h⟩ := bindS h
   refine LH.seqT [(0, .L p0), (3, .I n2), (4, .I x4), (8, .L p0), (9, .I (p0.length : Int)), (10, .I n2)] [] rfl ?_ ?_
   ·refine sMi rfl ?_
    refine sN (oIx (f := LV.I) te22 tk3 ts3 rfl rfl okI hx4 rfl ?_)
    refine sN (oLd rfl tk3 ta3 ?_)
    refine sAi rfl ?_
    refine sAi rfl ?_
    exact s0 (Wk.eq rfl rfl rfl rfl)
   obtain ⟨w6, hv, h⟩ := bindS h
   refine LH.seqT [(0, .L p0), (8, .L p0), (9, .I (p0.length : Int)), (10, .I n2), (33, .bool w6)] [] rfl ?_ ?_
   ·refine sMi rfl ?_
    refine sN (oLt rfl rfl ?_)
    refine sMb rfl ?_
    by_cases hb7 : (decide (x4 < 0)) = true
    ·replace hv := iteT hv hb7
     refine sF rfl rfl hb7 ?_
     refine sF rfl rfl hb7 ?_
     refine sN (oPkT (congrArg LV.bool hb7) (v := (.bool _)) rfl ?_)
     refine sMb rfl ?_
     refine sF rfl rfl rfl ?_
     refine sF rfl rfl rfl ?_
     refine sF rfl rfl rfl ?_
     refine sU rfl rfl ?_
     refine sU rfl rfl ?_
     refine sU rfl rfl ?_
     refine sU rfl rfl ?_
     refine sU rfl rfl ?_
     refine sU rfl rfl ?_
     refine sU rfl rfl ?_
     refine sF rfl rfl rfl ?_
     refine sN (oPkT rfl (v := (.bool _)) rfl ?_)
     obtain rfl := Option.some.inj hv
     exact s0 (Wk.eq rfl rfl rfl rfl)
    ·replace hb7 := bF hb7
     replace hv := iteF hv hb7
     refine sT rfl (congrArg LV.bool hb7) (oM (v := (.int _ _)) rfl ?_)
     refine sT rfl (congrArg LV.bool hb7) (oGt rfl rfl ?_)
     refine sN (oPkF (congrArg LV.bool hb7) (v := (.bool _)) rfl ?_)
     refine sMb rfl ?_
     by_cases hb8 : (decide (x4 > 9999)) = true
     ·replace hv := iteT hv hb8
      refine sF rfl rfl hb8 ?_
      refine sF rfl rfl hb8 ?_
      refine sF rfl rfl hb8 ?_
      refine sU rfl rfl ?_
      refine sU rfl rfl ?_
      refine sU rfl rfl ?_
      refine sU rfl rfl ?_
      refine sU rfl rfl ?_
      refine sU rfl rfl ?_
      refine sU rfl rfl ?_
      refine sF rfl rfl hb8 ?_
      refine sN (oPkT (congrArg LV.bool hb8) (v := (.bool _)) rfl ?_)
      obtain rfl := Option.some.inj hv
      exact s0 (Wk.eq rfl rfl rfl rfl)
     ·replace hb8 := bF hb8
      replace hv := iteF hv hb8
      refine sT rfl (congrArg LV.bool hb8) (oM (v := (.int _ _)) rfl ?_)
      refine sT rfl (congrArg LV.bool hb8) (oGt rfl rfl ?_)
      refine sT rfl (congrArg LV.bool hb8) (oM (v := (.bool _)) rfl ?_)
      by_cases hb9 : (decide (n2 > 0)) = true
      ·replace hv := iteT hv hb9
       refine sT rfl (congrArg LV.bool hb9) (oM (v := (.lst _ _)) rfl ?_)
       refine sT rfl (congrArg LV.bool hb9) (oM (v := (.int _ _)) rfl ?_)
       refine sT rfl (congrArg LV.bool hb9) (oSub rfl rfl ?_)
       obtain ⟨x10, hx10, hv⟩ := bindS hv
       refine sT rfl (congrArg LV.bool hb9) (oIx (f := LV.I) te22 tk3 ts3 rfl rfl okI hx10 rfl ?_)
       refine sT rfl (congrArg LV.bool hb9) (oLd rfl tk3 ta3 ?_)
       refine sT rfl (congrArg LV.bool hb9) (oM (v := (.int _ _)) rfl ?_)
       refine sT rfl (congrArg LV.bool hb9) (oGe rfl rfl ?_)
       refine sT rfl (congrArg LV.bool hb8) (oPkT (congrArg LV.bool hb9) (v := (.bool _)) rfl ?_)
       refine sN (oPkF (congrArg LV.bool hb8) (v := (.bool _)) rfl ?_)
       obtain rfl := Option.some.inj hv
       exact s0 (Wk.eq rfl rfl rfl rfl)
      ·replace hb9 := bF hb9
       replace hv := iteF hv hb9
       refine sF rfl rfl hb9 ?_
       refine sF rfl rfl hb9 ?_
       refine sF rfl rfl hb9 ?_
       refine sF rfl rfl hb9 ?_
       refine sF rfl rfl hb9 ?_
       refine sF rfl rfl hb9 ?_
       refine sF rfl rfl hb9 ?_
       refine sT rfl (congrArg LV.bool hb8) (oPkF (congrArg LV.bool hb9) (v := (.bool _)) rfl ?_)
       refine sN (oPkF (congrArg LV.bool hb8) (v := (.bool _)) rfl ?_)
       obtain rfl := Option.some.inj hv
       exact s0 (Wk.eq rfl rfl rfl rfl)
   clear hv
   refine LH.cond (t := w6) rfl (fun hc11 => ?_) (fun hc11 => ?_)
   ·replace h := iteT h hc11
    refine LH.seqT [(2, .bool false)] [] rfl ?_ ?_
    ·refine sAb rfl ?_
     exact s0 (Wk.eq rfl rfl rfl rfl)
    refine LH.ret ?_
    refine blockR ?_
    refine thenR ?_
    refine roundR ?_
    refine blockR ?_
    refine thenR ?_
    obtain rfl := Option.some.inj h
    exact retE (congrArg Array.toList Try.results41) (lrT rfl (lr0 ⟨memN mN, rfl, prK rfl, Sub.rfl⟩))
   replace h := iteF h hc11
   refine LH.skip ?_
   refine blockN ?_
   refine thenN ?_
   refine LH.loneT [(0, .L p0), (8, .L p0), (9, .I (p0.length : Int)), (10, .I (i64 (n2 + 1)))] [] rfl ?_ ?_
   ·refine sN (oAdd rfl rfl ?_)
    refine sMi rfl ?_
    exact s0 (Wk.eq rfl rfl rfl rfl)
   exact roundI ⟨(i64 (n2 + 1)), hrec1 ▸ h, rfl, rfl⟩ (Wk.eq rfl rfl rfl rfl)
  replace h := iteF h hc3
  refine LH.exit ?_
  refine thenX ?_
  refine roundX ?_
  refine blockH ?_
  refine thenN ?_
  refine LH.seqT [(2, .bool true)] [] rfl ?_ ?_
  ·refine sAb rfl ?_
   exact s0 (Wk.eq rfl rfl rfl rfl)
  refine LH.ret ?_
  obtain rfl := Option.some.inj h
  exact retE (congrArg Array.toList Try.results41) (lrT rfl (lr0 ⟨memN mN, rfl, prK rfl, Sub.rfl⟩))

theorem custody_outOfRange_ok {F : Nat} {p0 : GBagEvent} {r : Bool} (h : custody_outOfRange F p0 = some r) : LCall Try.prog 54 [.agg [.I p0.Stamp.Time, .I p0.Stamp.Source, .I p0.Stamp.Seq, .I p0.Kind, .I p0.Bag, .I p0.Seal, .I p0.From, .I p0.To, .L p0.Candidates]] (Mem.of []) (.bool r) (Mem.of []) := by
  unfold custody_outOfRange at h
  refine bodyT Try.func54 rfl (by rw [Try.ntmps54]; exact Nat.le_of_ble_eq_true rfl) ?_
  refine LH.wk (Wk.eq (el := [(0, .agg [.I p0.Stamp.Time, .I p0.Stamp.Source, .I p0.Stamp.Seq, .I p0.Kind, .I p0.Bag, .I p0.Seal, .I p0.From, .I p0.To, .L p0.Candidates])]) (ml := []) rfl rfl rfl rfl) ?_
  refine LH.seqT [(1, .sptr [.I p0.Stamp.Time, .I p0.Stamp.Source, .I p0.Stamp.Seq, .I p0.Kind, .I p0.Bag, .I p0.Seal, .I p0.From, .I p0.To, .L p0.Candidates])] [] rfl ?_ ?_
  ·refine sB (oBxR rfl rfl rfl rfl ?_)
   refine sAb rfl ?_
   exact s0 (Wk.eq rfl rfl rfl rfl)
  refine LH.seq ?_
  obtain ⟨w2, hv, h⟩ := bindS h
  refine LH.seqT [(1, .sptr [.I p0.Stamp.Time, .I p0.Stamp.Source, .I p0.Stamp.Seq, .I p0.Kind, .I p0.Bag, .I p0.Seal, .I p0.From, .I p0.To, .L p0.Candidates]), (28, .bool w2)] [] rfl ?_ ?_
  ·refine sN (oFaS tf34_1 tk3 ts3 rfl rfl rfl ?_)
   refine sN (oLd rfl tk3 ta3 ?_)
   refine sN (oLt rfl rfl ?_)
   refine sMb rfl ?_
   by_cases hb3 : (decide (p0.Kind < 1)) = true
   ·replace hv := iteT hv hb3
    refine sF rfl rfl hb3 ?_
    refine sF rfl rfl hb3 ?_
    refine sF rfl rfl hb3 ?_
    refine sN (oPkT (congrArg LV.bool hb3) (v := (.bool _)) rfl ?_)
    refine sMb rfl ?_
    refine sF rfl rfl rfl ?_
    refine sF rfl rfl rfl ?_
    refine sF rfl rfl rfl ?_
    refine sF rfl rfl rfl ?_
    refine sN (oPkT rfl (v := (.bool _)) rfl ?_)
    refine sMb rfl ?_
    refine sF rfl rfl rfl ?_
    refine sF rfl rfl rfl ?_
    refine sF rfl rfl rfl ?_
    refine sF rfl rfl rfl ?_
    refine sN (oPkT rfl (v := (.bool _)) rfl ?_)
    refine sMb rfl ?_
    refine sF rfl rfl rfl ?_
    refine sF rfl rfl rfl ?_
    refine sF rfl rfl rfl ?_
    refine sF rfl rfl rfl ?_
    refine sN (oPkT rfl (v := (.bool _)) rfl ?_)
    obtain rfl := Option.some.inj hv
    exact s0 (Wk.eq rfl rfl rfl rfl)
   ·replace hb3 := bF hb3
    replace hv := iteF hv hb3
    refine sT rfl (congrArg LV.bool hb3) (oFaS tf34_1 tk3 ts3 rfl rfl rfl ?_)
    refine sT rfl (congrArg LV.bool hb3) (oLd rfl tk3 ta3 ?_)
    refine sT rfl (congrArg LV.bool hb3) (oGt rfl rfl ?_)
    refine sN (oPkF (congrArg LV.bool hb3) (v := (.bool _)) rfl ?_)
    refine sMb rfl ?_
    by_cases hb4 : (decide (p0.Kind > 4)) = true
    ·replace hv := iteT hv hb4
     refine sF rfl rfl hb4 ?_
     refine sF rfl rfl hb4 ?_
     refine sF rfl rfl hb4 ?_
     refine sF rfl rfl hb4 ?_
     refine sN (oPkT (congrArg LV.bool hb4) (v := (.bool _)) rfl ?_)
     refine sMb rfl ?_
     refine sF rfl rfl rfl ?_
     refine sF rfl rfl rfl ?_
     refine sF rfl rfl rfl ?_
     refine sF rfl rfl rfl ?_
     refine sN (oPkT rfl (v := (.bool _)) rfl ?_)
     refine sMb rfl ?_
     refine sF rfl rfl rfl ?_
     refine sF rfl rfl rfl ?_
     refine sF rfl rfl rfl ?_
     refine sF rfl rfl rfl ?_
     refine sN (oPkT rfl (v := (.bool _)) rfl ?_)
     obtain rfl := Option.some.inj hv
     exact s0 (Wk.eq rfl rfl rfl rfl)
    ·replace hb4 := bF hb4
     replace hv := iteF hv hb4
     refine sT rfl (congrArg LV.bool hb4) (oFaS tf34_2 tk3 ts3 rfl rfl rfl ?_)
     refine sT rfl (congrArg LV.bool hb4) (oLd rfl tk3 ta3 ?_)
     obtain ⟨r5, hr5, hv⟩ := bindS hv
     refine sT rfl (congrArg LV.bool hb4) (oCP (args := [.I p0.Bag]) rfl isF61 rfl (sbR sbN) (custody_isBag_ok hr5) rfl ?_)
     refine sT rfl (congrArg LV.bool hb4) (oNot rfl ?_)
     refine sN (oPkF (congrArg LV.bool hb4) (v := (.bool _)) rfl ?_)
     refine sMb rfl ?_
     by_cases hb6 : (!r5) = true
     ·replace hv := iteT hv hb6
      refine sF rfl rfl hb6 ?_
      refine sF rfl rfl hb6 ?_
      refine sF rfl rfl hb6 ?_
      refine sF rfl rfl hb6 ?_
      refine sN (oPkT (congrArg LV.bool hb6) (v := (.bool _)) rfl ?_)
      refine sMb rfl ?_
      refine sF rfl rfl rfl ?_
      refine sF rfl rfl rfl ?_
      refine sF rfl rfl rfl ?_
      refine sF rfl rfl rfl ?_
      refine sN (oPkT rfl (v := (.bool _)) rfl ?_)
      obtain rfl := Option.some.inj hv
      exact s0 (Wk.eq rfl rfl rfl rfl)
     ·replace hb6 := bF hb6
      replace hv := iteF hv hb6
      refine sT rfl (congrArg LV.bool hb6) (oFaS tf34_3 tk3 ts3 rfl rfl rfl ?_)
      refine sT rfl (congrArg LV.bool hb6) (oLd rfl tk3 ta3 ?_)
      obtain ⟨r7, hr7, hv⟩ := bindS hv
      refine sT rfl (congrArg LV.bool hb6) (oCP (args := [.I p0.Seal]) rfl isF65 rfl (sbR sbN) (custody_isSeal_ok hr7) rfl ?_)
      refine sT rfl (congrArg LV.bool hb6) (oNot rfl ?_)
      refine sN (oPkF (congrArg LV.bool hb6) (v := (.bool _)) rfl ?_)
      refine sMb rfl ?_
      by_cases hb8 : (!r7) = true
      ·replace hv := iteT hv hb8
       refine sF rfl rfl hb8 ?_
       refine sF rfl rfl hb8 ?_
       refine sF rfl rfl hb8 ?_
       refine sF rfl rfl hb8 ?_
       refine sN (oPkT (congrArg LV.bool hb8) (v := (.bool _)) rfl ?_)
       obtain rfl := Option.some.inj hv
       exact s0 (Wk.eq rfl rfl rfl rfl)
      ·replace hb8 := bF hb8
       replace hv := iteF hv hb8
       refine sT rfl (congrArg LV.bool hb8) (oFaS tf34_4 tk3 ts3 rfl rfl rfl ?_)
       refine sT rfl (congrArg LV.bool hb8) (oLd rfl tk3 ta3 ?_)
       obtain ⟨r9, hr9, hv⟩ := bindS hv
       refine sT rfl (congrArg LV.bool hb8) (oCP (args := [.I p0.From]) rfl isF62 rfl (sbR sbN) (custody_isHolder_ok hr9) rfl ?_)
       refine sT rfl (congrArg LV.bool hb8) (oNot rfl ?_)
       refine sN (oPkF (congrArg LV.bool hb8) (v := (.bool _)) rfl ?_)
       obtain rfl := Option.some.inj hv
       exact s0 (Wk.eq rfl rfl rfl rfl)
  clear hv
  refine LH.cond (t := w2) rfl (fun hc10 => ?_) (fun hc10 => ?_)
  ·replace h := iteT h hc10
   refine LH.seqT [(2, .bool true)] [] rfl ?_ ?_
   ·refine sAb rfl ?_
    exact s0 (Wk.eq rfl rfl rfl rfl)
   refine LH.ret ?_
   refine thenR ?_
   obtain rfl := Option.some.inj h
   exact retE (congrArg Array.toList Try.results54) (lrT rfl (lr0 ⟨memN mN, rfl, prK rfl, Sub.rfl⟩))
  replace h := iteF h hc10
  refine LH.skip ?_
  refine thenN ?_
  refine LH.wk (Wk.eq (el := [(1, .sptr [.I p0.Stamp.Time, .I p0.Stamp.Source, .I p0.Stamp.Seq, .I p0.Kind, .I p0.Bag, .I p0.Seal, .I p0.From, .I p0.To, .L p0.Candidates])]) (ml := []) rfl rfl rfl rfl) ?_
  refine LH.seq ?_
  refine LH.seqT [(1, .sptr [.I p0.Stamp.Time, .I p0.Stamp.Source, .I p0.Stamp.Seq, .I p0.Kind, .I p0.Bag, .I p0.Seal, .I p0.From, .I p0.To, .L p0.Candidates]), (30, .I p0.Kind)] [] rfl ?_ ?_
  ·refine sN (oFaS tf34_1 tk3 ts3 rfl rfl rfl ?_)
   refine sN (oLd rfl tk3 ta3 ?_)
   exact s0 (Wk.eq rfl rfl rfl rfl)
  refine LH.block ?_
  refine LH.seqT [(1, .sptr [.I p0.Stamp.Time, .I p0.Stamp.Source, .I p0.Stamp.Seq, .I p0.Kind, .I p0.Bag, .I p0.Seal, .I p0.From, .I p0.To, .L p0.Candidates]), (30, .I p0.Kind), (31, .bool (p0.Kind == 2))] [] rfl ?_ ?_
  ·refine sN (oEq rfl rfl ?_)
   refine sAb rfl ?_
   exact s0 (Wk.eq rfl rfl rfl rfl)
  refine LH.cond (t := (p0.Kind == 2)) rfl (fun hc11 => ?_) (fun hc11 => ?_)
  ·replace h := iteT h hc11
   obtain ⟨r12, hr12, h⟩ := bindS h
   refine LH.seqT [(2, .bool (!r12))] [] rfl ?_ ?_
   ·refine sN (oFaS tf34_5 tk3 ts3 rfl rfl rfl ?_)
    refine sN (oLd rfl tk3 ta3 ?_)
    refine sN (oCP (args := [.I p0.To]) rfl isF62 rfl (sbR sbN) (custody_isHolder_ok hr12) rfl ?_)
    refine sN (oNot rfl ?_)
    refine sAb rfl ?_
    exact s0 (Wk.eq rfl rfl rfl rfl)
   refine LH.ret ?_
   refine blockR ?_
   refine thenR ?_
   obtain rfl := Option.some.inj h
   exact retE (congrArg Array.toList Try.results54) (lrT rfl (lr0 ⟨memN mN, rfl, prK rfl, Sub.rfl⟩))
  replace h := iteF h hc11
  refine LH.seq ?_
  refine LH.seqT [(1, .sptr [.I p0.Stamp.Time, .I p0.Stamp.Source, .I p0.Stamp.Seq, .I p0.Kind, .I p0.Bag, .I p0.Seal, .I p0.From, .I p0.To, .L p0.Candidates]), (30, .I p0.Kind), (37, .bool (p0.Kind == 1))] [] rfl ?_ ?_
  ·refine sN (oEq rfl rfl ?_)
   refine sAb rfl ?_
   exact s0 (Wk.eq rfl rfl rfl rfl)
  refine LH.cond (t := (p0.Kind == 1)) rfl (fun hc13 => ?_) (fun hc13 => ?_)
  ·replace h := iteT h hc13
   refine LH.skip ?_
   refine thenN ?_
   refine LH.wk (Wk.eq (el := [(1, .sptr [.I p0.Stamp.Time, .I p0.Stamp.Source, .I p0.Stamp.Seq, .I p0.Kind, .I p0.Bag, .I p0.Seal, .I p0.From, .I p0.To, .L p0.Candidates]), (37, .bool (p0.Kind == 1))]) (ml := []) rfl rfl rfl rfl) ?_
   refine LH.cond (t := (p0.Kind == 1)) rfl (fun hc14 => ?_) (fun hc14 => ?_)
   ·replace h := iteT h hc14
    obtain ⟨r15, hr15, h⟩ := bindS h
    refine LH.seqT [(2, .bool (!r15))] [] rfl ?_ ?_
    ·refine sN (oFaS tf34_6 tk22 ts22 rfl rfl rfl ?_)
     refine sN (oLd rfl tk22 ta22 ?_)
     refine sN (oCP (args := [.L p0.Candidates]) rfl isF41 rfl (sbR sbN) (custody_sorted_ok hr15) rfl ?_)
     refine sN (oNot rfl ?_)
     refine sAb rfl ?_
     exact s0 (Wk.eq rfl rfl rfl rfl)
    refine LH.ret ?_
    refine blockR ?_
    refine thenR ?_
    obtain rfl := Option.some.inj h
    exact retE (congrArg Array.toList Try.results54) (lrT rfl (lr0 ⟨memN mN, rfl, prK rfl, Sub.rfl⟩))
   replace h := iteF h hc14
   refine LH.skip ?_
   refine blockN ?_
   refine thenN ?_
   refine LH.seqT [(2, .bool false)] [] rfl ?_ ?_
   ·refine sAb rfl ?_
    exact s0 (Wk.eq rfl rfl rfl rfl)
   refine LH.ret ?_
   obtain rfl := Option.some.inj h
   exact retE (congrArg Array.toList Try.results54) (lrT rfl (lr0 ⟨memN mN, rfl, prK rfl, Sub.rfl⟩))
  replace h := iteF h hc13
  refine LH.loneT [(1, .sptr [.I p0.Stamp.Time, .I p0.Stamp.Source, .I p0.Stamp.Seq, .I p0.Kind, .I p0.Bag, .I p0.Seal, .I p0.From, .I p0.To, .L p0.Candidates]), (37, .bool (p0.Kind == 3))] [] rfl ?_ ?_
  ·refine sN (oEq rfl rfl ?_)
   refine sAb rfl ?_
   exact s0 (Wk.eq rfl rfl rfl rfl)
  refine thenN ?_
  refine LH.cond (t := (p0.Kind == 3)) rfl (fun hc16 => ?_) (fun hc16 => ?_)
  ·replace h := iteT h hc16
   obtain ⟨r17, hr17, h⟩ := bindS h
   refine LH.seqT [(2, .bool (!r17))] [] rfl ?_ ?_
   ·refine sN (oFaS tf34_6 tk22 ts22 rfl rfl rfl ?_)
    refine sN (oLd rfl tk22 ta22 ?_)
    refine sN (oCP (args := [.L p0.Candidates]) rfl isF41 rfl (sbR sbN) (custody_sorted_ok hr17) rfl ?_)
    refine sN (oNot rfl ?_)
    refine sAb rfl ?_
    exact s0 (Wk.eq rfl rfl rfl rfl)
   refine LH.ret ?_
   refine blockR ?_
   refine thenR ?_
   obtain rfl := Option.some.inj h
   exact retE (congrArg Array.toList Try.results54) (lrT rfl (lr0 ⟨memN mN, rfl, prK rfl, Sub.rfl⟩))
  replace h := iteF h hc16
  refine LH.skip ?_
  refine blockN ?_
  refine thenN ?_
  refine LH.seqT [(2, .bool false)] [] rfl ?_ ?_
  ·refine sAb rfl ?_
   exact s0 (Wk.eq rfl rfl rfl rfl)
  refine LH.ret ?_
  obtain rfl := Option.some.inj h
  exact retE (congrArg Array.toList Try.results54) (lrT rfl (lr0 ⟨memN mN, rfl, prK rfl, Sub.rfl⟩))

theorem custody_step_2_ok {F : Nat} {c0 : GBagEvent} {r : Bool} (h : custody_step_2 F c0 = some r) : LCall Try.prog 53 [.sptr [.I c0.Stamp.Time, .I c0.Stamp.Source, .I c0.Stamp.Seq, .I c0.Kind, .I c0.Bag, .I c0.Seal, .I c0.From, .I c0.To, .L c0.Candidates]] (Mem.of []) (.bool r) (Mem.of []) := by
  unfold custody_step_2 at h
  refine bodyT Try.func53 rfl (by rw [Try.ntmps53]; exact Nat.le_of_ble_eq_true rfl) ?_
  refine LH.wk (Wk.eq (el := [(0, .sptr [.I c0.Stamp.Time, .I c0.Stamp.Source, .I c0.Stamp.Seq, .I c0.Kind, .I c0.Bag, .I c0.Seal, .I c0.From, .I c0.To, .L c0.Candidates])]) (ml := []) rfl rfl rfl rfl) ?_
  refine LH.seqT [(0, .sptr [.I c0.Stamp.Time, .I c0.Stamp.Source, .I c0.Stamp.Seq, .I c0.Kind, .I c0.Bag, .I c0.Seal, .I c0.From, .I c0.To, .L c0.Candidates])] [] rfl ?_ ?_
  ·refine sAb rfl ?_
   exact s0 (Wk.eq rfl rfl rfl rfl)
  obtain ⟨r1, hr1, h⟩ := bindS h
  refine LH.seqT [(1, .bool r1)] [] rfl ?_ ?_
  ·refine sN (oLdA rfl tk34 ta34 ts34 rfl rfl ?_)
   refine sN (oCP (args := [.agg [.I c0.Stamp.Time, .I c0.Stamp.Source, .I c0.Stamp.Seq, .I c0.Kind, .I c0.Bag, .I c0.Seal, .I c0.From, .I c0.To, .L c0.Candidates]]) rfl isF54 rfl (sbR sbN) (custody_outOfRange_ok hr1) rfl ?_)
   refine sAb rfl ?_
   exact s0 (Wk.eq rfl rfl rfl rfl)
  refine LH.ret ?_
  obtain rfl := Option.some.inj h
  exact retE (congrArg Array.toList Try.results53) (lrT rfl (lr0 ⟨memN mN, rfl, prK rfl, Sub.rfl⟩))

theorem custody_step_3_ok {c0 : GBagEvent} {r : Bool} (h : custody_step_3 c0 = some r) : LCall Try.prog 55 [.sptr [.I c0.Stamp.Time, .I c0.Stamp.Source, .I c0.Stamp.Seq, .I c0.Kind, .I c0.Bag, .I c0.Seal, .I c0.From, .I c0.To, .L c0.Candidates]] (Mem.of []) (.bool r) (Mem.of []) := by
  unfold custody_step_3 at h
  refine bodyT Try.func55 rfl (by rw [Try.ntmps55]; exact Nat.le_of_ble_eq_true rfl) ?_
  refine LH.wk (Wk.eq (el := [(0, .sptr [.I c0.Stamp.Time, .I c0.Stamp.Source, .I c0.Stamp.Seq, .I c0.Kind, .I c0.Bag, .I c0.Seal, .I c0.From, .I c0.To, .L c0.Candidates])]) (ml := []) rfl rfl rfl rfl) ?_
  refine LH.seqT [(0, .sptr [.I c0.Stamp.Time, .I c0.Stamp.Source, .I c0.Stamp.Seq, .I c0.Kind, .I c0.Bag, .I c0.Seal, .I c0.From, .I c0.To, .L c0.Candidates])] [] rfl ?_ ?_
  ·refine sAb rfl ?_
   exact s0 (Wk.eq rfl rfl rfl rfl)
  refine LH.seqT [(1, .bool ((c0.Stamp.Source != 0) && (c0.Stamp.Source != c0.From)))] [] rfl ?_ ?_
  ·refine sN (oFaS tf34_0 tk32 ts32 rfl rfl rfl ?_)
   refine sN (oFaS tf32_1 tk3 ts3 rfl rfl rfl ?_)
   refine sN (oLd rfl tk3 ta3 ?_)
   refine sN (oNe rfl rfl ?_)
   refine sMb rfl ?_
   by_cases hb2 : (c0.Stamp.Source != 0) = true
   ·refine sT rfl (congrArg LV.bool hb2) (oFaS tf34_0 tk32 ts32 rfl rfl rfl ?_)
    refine sT rfl (congrArg LV.bool hb2) (oFaS tf32_1 tk3 ts3 rfl rfl rfl ?_)
    refine sT rfl (congrArg LV.bool hb2) (oLd rfl tk3 ta3 ?_)
    refine sT rfl (congrArg LV.bool hb2) (oFaS tf34_4 tk3 ts3 rfl rfl rfl ?_)
    refine sT rfl (congrArg LV.bool hb2) (oLd rfl tk3 ta3 ?_)
    refine sT rfl (congrArg LV.bool hb2) (oNe rfl rfl ?_)
    refine sN (oPkT (congrArg LV.bool hb2) (v := (.bool _)) rfl ?_)
    refine sAb rfl ?_
    exact s0 (Wk.to (eC (congrArg LV.bool (andT hb2)) eN) mN rfl (prK rfl))
   ·replace hb2 := bF hb2
    refine sF rfl rfl hb2 ?_
    refine sF rfl rfl hb2 ?_
    refine sF rfl rfl hb2 ?_
    refine sF rfl rfl hb2 ?_
    refine sF rfl rfl hb2 ?_
    refine sF rfl rfl hb2 ?_
    refine sN (oPkF (congrArg LV.bool hb2) (v := (.bool _)) rfl ?_)
    refine sAb rfl ?_
    exact s0 (Wk.to (eC (congrArg LV.bool (andF hb2)) eN) mN rfl (prK rfl))
  refine LH.ret ?_
  obtain rfl := Option.some.inj h
  exact retE (congrArg Array.toList Try.results55) (lrT rfl (lr0 ⟨memN mN, rfl, prK rfl, Sub.rfl⟩))

theorem custody_newConditions_1_ok {c0 : GBagEvent} {r : Bool} (h : custody_newConditions_1 c0 = some r) : LCall Try.prog 74 [.sptr [.I c0.Stamp.Time, .I c0.Stamp.Source, .I c0.Stamp.Seq, .I c0.Kind, .I c0.Bag, .I c0.Seal, .I c0.From, .I c0.To, .L c0.Candidates]] (Mem.of []) (.bool r) (Mem.of []) := by
  unfold custody_newConditions_1 at h
  refine bodyT Try.func74 rfl (by rw [Try.ntmps74]; exact Nat.le_of_ble_eq_true rfl) ?_
  refine LH.wk (Wk.eq (el := [(0, .sptr [.I c0.Stamp.Time, .I c0.Stamp.Source, .I c0.Stamp.Seq, .I c0.Kind, .I c0.Bag, .I c0.Seal, .I c0.From, .I c0.To, .L c0.Candidates])]) (ml := []) rfl rfl rfl rfl) ?_
  refine LH.seqT [(0, .sptr [.I c0.Stamp.Time, .I c0.Stamp.Source, .I c0.Stamp.Seq, .I c0.Kind, .I c0.Bag, .I c0.Seal, .I c0.From, .I c0.To, .L c0.Candidates])] [] rfl ?_ ?_
  ·refine sAb rfl ?_
   exact s0 (Wk.eq rfl rfl rfl rfl)
  refine LH.seqT [(1, .bool (c0.From == 0))] [] rfl ?_ ?_
  ·refine sN (oFaS tf34_4 tk3 ts3 rfl rfl rfl ?_)
   refine sN (oLd rfl tk3 ta3 ?_)
   refine sN (oEq rfl rfl ?_)
   refine sAb rfl ?_
   exact s0 (Wk.eq rfl rfl rfl rfl)
  refine LH.ret ?_
  obtain rfl := Option.some.inj h
  exact retE (congrArg Array.toList Try.results74) (lrT rfl (lr0 ⟨memN mN, rfl, prK rfl, Sub.rfl⟩))

theorem custody_newConditions_2_ok {c0 : Bool} {r : Bool} (h : custody_newConditions_2 c0 = some r) : LCall Try.prog 75 [.sptr [.bool c0]] (Mem.of []) (.bool r) (Mem.of []) := by
  unfold custody_newConditions_2 at h
  refine bodyT Try.func75 rfl (by rw [Try.ntmps75]; exact Nat.le_of_ble_eq_true rfl) ?_
  refine LH.wk (Wk.eq (el := [(0, .sptr [.bool c0])]) (ml := []) rfl rfl rfl rfl) ?_
  refine LH.seqT [(0, .sptr [.bool c0])] [] rfl ?_ ?_
  ·refine sAb rfl ?_
   exact s0 (Wk.eq rfl rfl rfl rfl)
  refine LH.seqT [(1, .bool c0)] [] rfl ?_ ?_
  ·refine sN (oLd rfl tk4 ta4 ?_)
   refine sAb rfl ?_
   exact s0 (Wk.eq rfl rfl rfl rfl)
  refine LH.ret ?_
  obtain rfl := Option.some.inj h
  exact retE (congrArg Array.toList Try.results75) (lrT rfl (lr0 ⟨memN mN, rfl, prK rfl, Sub.rfl⟩))

theorem slices_Index_int_int_ok {F : Nat} {p0 : List Int} {p1 : Int} {r : Int} (h : slices_Index_int_int F p0 p1 = some r) : LCall Try.prog 109 [.L p0, .I p1] (Mem.of []) (.I r) (Mem.of []) := by
  unfold slices_Index_int_int at h
  refine bodyT Try.func109 rfl (by rw [Try.ntmps109]; exact Nat.le_of_ble_eq_true rfl) ?_
  refine LH.wk (Wk.eq (el := [(0, .L p0), (1, .I p1)]) (ml := []) rfl rfl rfl rfl) ?_
  refine LH.seqT [(0, .L p0), (1, .I p1)] [] rfl ?_ ?_
  ·refine sAi rfl ?_
   exact s0 (Wk.eq rfl rfl rfl rfl)
  refine LH.seq ?_
  refine LH.seqT [(0, .L p0), (1, .I p1), (7, .I (p0.length : Int)), (8, .I 0)] [] rfl ?_ ?_
  ·refine sMl rfl ?_
   refine sN (oLnL (f := LV.I) te22 rfl ?_)
   refine sMi rfl ?_
   exact s0 (Wk.eq rfl rfl rfl rfl)
  refine LH.block ?_
  refine LH.loop (fun n e m => ∃ (n1 : Int), slices_Index_int_int_L1 p0 p1 n n1 = some r ∧ e = Env.of [(0, .L p0), (1, .I p1), (7, .I (p0.length : Int)), (8, .I n1)] ∧ m = Mem.of []) F ⟨0, h, rfl, rfl⟩ ?_
  clear h
  rintro n e m ⟨n1, h, rfl, rfl⟩
  rcases n with _ | n
  · cases (show Option.none = some _ from h)
  obtain ⟨rec1, hrec1⟩ : ∃ f, f = slices_Index_int_int_L1 p0 p1 n := ⟨_, rfl⟩
  replace h : slices_Index_int_int_L1_B p0 p1 rec1 n1 = some r := hrec1 ▸ h
  unfold slices_Index_int_int_L1_B at h
  refine LH.seqT [(0, .L p0), (1, .I p1), (7, .I (p0.length : Int)), (8, .I n1), (9, .bool (decide (n1 < (p0.length : Int))))] [] rfl ?_ ?_
  ·refine sN (oLt rfl rfl ?_)
   exact s0 (Wk.eq rfl rfl rfl rfl)
  refine LH.seq ?_
  refine LH.cond (t := (decide (n1 < (p0.length : Int)))) rfl (fun hc2 => ?_) (fun hc2 => ?_)
  ·replace h := iteT h hc2
   refine LH.skip ?_
   refine thenN ?_
   refine LH.wk (Wk.eq (el := [(0, .L p0), (1, .I p1), (7, .I (p0.length : Int)), (8, .I n1)]) (ml := []) rfl rfl rfl rfl) ?_
   refine LH.seq ?_
   refine LH.block ?_
   refine LH.seqT [(0, .L p0), (1, .I p1), (5, .I n1), (7, .I (p0.length : Int)), (8, .I n1)] [] rfl ?_ ?_
   ·refine sMi rfl ?_
    refine sAi rfl ?_
    exact s0 (Wk.eq rfl rfl rfl rfl)
   obtain ⟨x3, hx3, h⟩ := bindS h
   refine LH.seqT [(0, .L p0), (1, .I p1), (5, .I n1), (7, .I (p0.length : Int)), (8, .I n1), (16, .bool (p1 == x3))] [] rfl ?_ ?_
   ·refine sMi rfl ?_
    refine sMl rfl ?_
    refine sMi rfl ?_
    refine sN (oIx (f := LV.I) te22 tk3 ts3 rfl rfl okI hx3 rfl ?_)
    refine sN (oLd rfl tk3 ta3 ?_)
    refine sN (oEq rfl rfl ?_)
    exact s0 (Wk.eq rfl rfl rfl rfl)
   refine LH.cond (t := (p1 == x3)) rfl (fun hc4 => ?_) (fun hc4 => ?_)
   ·replace h := iteT h hc4
    refine LH.seqT [(4, .I n1)] [] rfl ?_ ?_
    ·refine sMi rfl ?_
     refine sAi rfl ?_
     exact s0 (Wk.eq rfl rfl rfl rfl)
    refine LH.ret ?_
    refine blockR ?_
    refine thenR ?_
    refine roundR ?_
    refine blockR ?_
    refine thenR ?_
    obtain rfl := Option.some.inj h
    exact retE (congrArg Array.toList Try.results109) (lrT rfl (lr0 ⟨memN mN, rfl, prK rfl, Sub.rfl⟩))
   replace h := iteF h hc4
   refine LH.skip ?_
   refine blockN ?_
   refine thenN ?_
   refine LH.loneT [(0, .L p0), (1, .I p1), (7, .I (p0.length : Int)), (8, .I (i64 (n1 + 1)))] [] rfl ?_ ?_
   ·refine sN (oAdd rfl rfl ?_)
    refine sMi rfl ?_
    exact s0 (Wk.eq rfl rfl rfl rfl)
   exact roundI ⟨(i64 (n1 + 1)), hrec1 ▸ h, rfl, rfl⟩ (Wk.eq rfl rfl rfl rfl)
  replace h := iteF h hc2
  refine LH.exit ?_
  refine thenX ?_
  refine roundX ?_
  refine blockH ?_
  refine thenN ?_
  refine LH.seqT [(4, .I (-1))] [] rfl ?_ ?_
  ·refine sAi rfl ?_
   exact s0 (Wk.eq rfl rfl rfl rfl)
  refine LH.ret ?_
  obtain rfl := Option.some.inj h
  exact retE (congrArg Array.toList Try.results109) (lrT rfl (lr0 ⟨memN mN, rfl, prK rfl, Sub.rfl⟩))

theorem slices_Contains_int_int_ok {F : Nat} {p0 : List Int} {p1 : Int} {r : Bool} (h : slices_Contains_int_int F p0 p1 = some r) : LCall Try.prog 96 [.L p0, .I p1] (Mem.of []) (.bool r) (Mem.of []) := by
  unfold slices_Contains_int_int at h
  refine bodyT Try.func96 rfl (by rw [Try.ntmps96]; exact Nat.le_of_ble_eq_true rfl) ?_
  refine LH.wk (Wk.eq (el := [(0, .L p0), (1, .I p1)]) (ml := []) rfl rfl rfl rfl) ?_
  refine LH.seqT [(0, .L p0), (1, .I p1)] [] rfl ?_ ?_
  ·refine sAb rfl ?_
   exact s0 (Wk.eq rfl rfl rfl rfl)
  obtain ⟨r1, hr1, h⟩ := bindS h
  refine LH.seqT [(4, .bool (decide (r1 ≥ 0)))] [] rfl ?_ ?_
  ·refine sMl rfl ?_
   refine sMi rfl ?_
   refine sN (oCP (args := [.L p0, .I p1]) rfl isF109 rfl (sbR (sbR sbN)) (slices_Index_int_int_ok hr1) rfl ?_)
   refine sN (oGe rfl rfl ?_)
   refine sAb rfl ?_
   exact s0 (Wk.eq rfl rfl rfl rfl)
  refine LH.ret ?_
  obtain rfl := Option.some.inj h
  exact retE (congrArg Array.toList Try.results96) (lrT rfl (lr0 ⟨memN mN, rfl, prK rfl, Sub.rfl⟩))

theorem custody_inBags_1_ok {F : Nat} {p0 : GBag} {c0 : (GBag → Option (List Int))} {c1 : Int} {r : Bool} {c0_f : Nat} {c0_c : List LV} (c0_i : IsF Try.prog c0_f) (c0_q : LV.pureL c0_c = true) (c0_k : ∀ (x0 : GBag) (q : List Int), c0 x0 = some q → LCall Try.prog c0_f ([.agg [.I x0.Bag, .I x0.Holder, .bool x0.Open, .L x0.Seals, .L x0.Packed, .L x0.Found]] ++ c0_c) (Mem.of []) (.L q) (Mem.of [])) (h : custody_inBags_1 F p0 c0 c1 = some r) : LCall Try.prog 95 [.agg [.I p0.Bag, .I p0.Holder, .bool p0.Open, .L p0.Seals, .L p0.Packed, .L p0.Found], .sptr [.fn c0_f c0_c], .sptr [.I c1]] (Mem.of []) (.bool r) (Mem.of []) := by
  have c0_p : ∀ {l : List LV}, LV.pureL l = true → LV.pureL (l ++ c0_c) = true := pnC c0_q
  have c0_r : LV.refsL c0_c = [] := refsL_pure c0_q
  unfold custody_inBags_1 at h
  refine bodyT Try.func95 rfl (by rw [Try.ntmps95]; exact Nat.le_of_ble_eq_true rfl) ?_
  refine LH.wk (Wk.to (el := [(0, .agg [.I p0.Bag, .I p0.Holder, .bool p0.Open, .L p0.Seals, .L p0.Packed, .L p0.Found]), (1, .sptr [.fn c0_f c0_c]), (2, .sptr [.I c1])]) (ml := []) (eQ ⟨rfl, rfl, rfl, trivial⟩) mN (by simp [keptRefs, LV.refs, LV.refsL, LV.cells, lev, Env.args, Env.of, Env.put, Env.drop, c0_r]) (prK rfl)) ?_
  refine LH.seqT [(1, .sptr [.fn c0_f c0_c]), (2, .sptr [.I c1]), (3, .sptr [.I p0.Bag, .I p0.Holder, .bool p0.Open, .L p0.Seals, .L p0.Packed, .L p0.Found])] [] rfl ?_ ?_
  ·refine sB (oBxR rfl rfl rfl rfl ?_)
   refine sAb rfl ?_
   exact s0 (Wk.to (eQ ⟨rfl, rfl, rfl, trivial⟩) mN (by simp [keptRefs, LV.refs, LV.refsL, LV.cells, lev, Env.args, Env.of, Env.put, Env.drop, c0_r]) (prK rfl))
  obtain ⟨r1, hr1, h⟩ := bindS h
  obtain ⟨r2, hr2, h⟩ := bindS h
  refine LH.seqJM mixed [] [0, 0, 0, 0, 0, 0] [(4, .bool r2)] [] rfl rfl (by kernel_rfl) ?_ ?_
  ·refine mN0 (oLd rfl tk77 ta77 ⟨rfl, ?_⟩)
   refine mN0 (oLdA rfl tk46 ta46 ts46 rfl rfl ⟨rfl, ?_⟩)
   refine mN0 (oCP (args := [.agg [.I p0.Bag, .I p0.Holder, .bool p0.Open, .L p0.Seals, .L p0.Packed, .L p0.Found]] ++ c0_c) (args' := [.agg [.I p0.Bag, .I p0.Holder, .bool p0.Open, .L p0.Seals, .L p0.Packed, .L p0.Found]] ++ c0_c) rfl c0_i rfl SubL.rfl (c0_k _ _ hr1) (c0_p rfl) ⟨rfl, ?_⟩)
   refine mN0 (oLd rfl tk3 ta3 ⟨rfl, ?_⟩)
   refine mN0 (oCP (args := [.L r1, .I c1]) rfl isF96 rfl (sbR (sbR sbN)) (slices_Contains_int_int_ok hr2) rfl ⟨rfl, ?_⟩)
   refine mN0 (oA (v := (.bool _)) rfl ⟨rfl, ?_⟩)
   exact m0 (Wk.to (eQ ⟨rfl, trivial⟩) mN (by simp [keptRefs, LV.refs, LV.refsL, LV.cells, lev, Env.args, Env.of, Env.put, Env.drop, c0_r]) (prK rfl))
  refine LH.ret ?_
  obtain rfl := Option.some.inj h
  exact retE (congrArg Array.toList Try.results95) (lrT rfl (lr0 ⟨memN mN, rfl, prK rfl, Sub.rfl⟩))

theorem slices_IndexFunc_Bag_Bag_ok {F : Nat} {p0 : List GBag} {p1 : (GBag → Option Bool)} {r : Int} {p1_f : Nat} {p1_c : List LV} (p1_i : IsF Try.prog p1_f) (p1_q : LV.pureL p1_c = true) (p1_k : ∀ (x0 : GBag) (q : Bool), p1 x0 = some q → LCall Try.prog p1_f ([.agg [.I x0.Bag, .I x0.Holder, .bool x0.Open, .L x0.Seals, .L x0.Packed, .L x0.Found]] ++ p1_c) (Mem.of []) (.bool q) (Mem.of [])) (h : slices_IndexFunc_Bag_Bag F p0 p1 = some r) : LCall Try.prog 108 [.lst 6 (List.map GBag.lv p0), .fn p1_f p1_c] (Mem.of []) (.I r) (Mem.of []) := by
  have p1_p : ∀ {l : List LV}, LV.pureL l = true → LV.pureL (l ++ p1_c) = true := pnC p1_q
  have p1_r : LV.refsL p1_c = [] := refsL_pure p1_q
  unfold slices_IndexFunc_Bag_Bag at h
  refine bodyT Try.func108 rfl (by rw [Try.ntmps108]; exact Nat.le_of_ble_eq_true rfl) ?_
  refine LH.wk (Wk.to (el := [(0, .lst 6 (List.map GBag.lv p0)), (1, .fn p1_f p1_c)]) (ml := []) (eQ ⟨rfl, rfl, trivial⟩) mN (by simp [keptRefs, LV.refs, LV.refsL, LV.cells, lev, Env.args, Env.of, Env.put, Env.drop, p1_r]) (prK rfl)) ?_
  refine LH.seqT [(0, .lst 6 (List.map GBag.lv p0)), (1, .fn p1_f p1_c)] [] rfl ?_ ?_
  ·refine sAi rfl ?_
   exact s0 (Wk.to (eQ ⟨rfl, rfl, trivial⟩) mN (by simp [keptRefs, LV.refs, LV.refsL, LV.cells, lev, Env.args, Env.of, Env.put, Env.drop, p1_r]) (prK rfl))
  refine LH.seq ?_
  refine LH.seqT [(0, .lst 6 (List.map GBag.lv p0)), (1, .fn p1_f p1_c), (7, .I (p0.length : Int)), (8, .I 0)] [] rfl ?_ ?_
  ·refine sMl rfl ?_
   refine sN (oLnL (f := GBag.lv) te39 rfl ?_)
   refine sMi rfl ?_
   exact s0 (Wk.to (eQ ⟨rfl, rfl, rfl, rfl, trivial⟩) mN (by simp [keptRefs, LV.refs, LV.refsL, LV.cells, lev, Env.args, Env.of, Env.put, Env.drop, p1_r]) (prK rfl))
  refine LH.block ?_
  refine LH.loop (fun n e m => ∃ (n1 : Int), slices_IndexFunc_Bag_Bag_L1 p0 p1 n n1 = some r ∧ e = Env.of [(0, .lst 6 (List.map GBag.lv p0)), (1, .fn p1_f p1_c), (7, .I (p0.length : Int)), (8, .I n1)] ∧ m = Mem.of []) F ⟨0, h, rfl, rfl⟩ ?_
  clear h
  rintro n e m ⟨n1, h, rfl, rfl⟩
  rcases n with _ | n
  · cases (show Option.none = some _ from h)
  obtain ⟨rec1, hrec1⟩ : ∃ f, f = slices_IndexFunc_Bag_Bag_L1 p0 p1 n := ⟨_, rfl⟩
  replace h : slices_IndexFunc_Bag_Bag_L1_B p0 p1 rec1 n1 = some r := hrec1 ▸ h
  unfold slices_IndexFunc_Bag_Bag_L1_B at h
  refine LH.seqT [(0, .lst 6 (List.map GBag.lv p0)), (1, .fn p1_f p1_c), (7, .I (p0.length : Int)), (8, .I n1), (9, .bool (decide (n1 < (p0.length : Int))))] [] rfl ?_ ?_
  ·refine sN (oLt rfl rfl ?_)
   exact s0 (Wk.to (eQ ⟨rfl, rfl, rfl, rfl, rfl, trivial⟩) mN (by simp [keptRefs, LV.refs, LV.refsL, LV.cells, lev, Env.args, Env.of, Env.put, Env.drop, p1_r]) (prK rfl))
  refine LH.seq ?_
  refine LH.cond (t := (decide (n1 < (p0.length : Int)))) rfl (fun hc2 => ?_) (fun hc2 => ?_)
  ·replace h := iteT h hc2
   refine LH.skip ?_
   refine thenN ?_
   refine LH.wk (Wk.to (el := [(0, .lst 6 (List.map GBag.lv p0)), (1, .fn p1_f p1_c), (7, .I (p0.length : Int)), (8, .I n1)]) (ml := []) (eQ ⟨rfl, rfl, rfl, rfl, trivial⟩) mN (by simp [keptRefs, LV.refs, LV.refsL, LV.cells, lev, Env.args, Env.of, Env.put, Env.drop, p1_r]) (prK rfl)) ?_
   refine LH.seq ?_
   refine LH.block ?_
   refine LH.seqT [(0, .lst 6 (List.map GBag.lv p0)), (1, .fn p1_f p1_c), (5, .I n1), (7, .I (p0.length : Int)), (8, .I n1)] [] rfl ?_ ?_
   ·refine sMi rfl ?_
    refine sAi rfl ?_
    exact s0 (Wk.to (eQ ⟨rfl, rfl, rfl, rfl, rfl, trivial⟩) mN (by simp [keptRefs, LV.refs, LV.refsL, LV.cells, lev, Env.args, Env.of, Env.put, Env.drop, p1_r]) (prK rfl))
   obtain ⟨x3, hx3, h⟩ := bindS h
   obtain ⟨r4, hr4, h⟩ := bindS h
   refine LH.seqT [(0, .lst 6 (List.map GBag.lv p0)), (1, .fn p1_f p1_c), (5, .I n1), (7, .I (p0.length : Int)), (8, .I n1), (16, .bool r4)] [] rfl ?_ ?_
   ·refine sN (oM (v := (.fn _ _)) rfl ?_)
    refine sMl rfl ?_
    refine sMi rfl ?_
    refine sN (oIx (f := GBag.lv) te39 tk46 ts46 rfl rfl GBag.ok hx3 rfl ?_)
    refine sN (oLdA rfl tk46 ta46 ts46 rfl rfl ?_)
    refine sN (oCP (args := [.agg [.I x3.Bag, .I x3.Holder, .bool x3.Open, .L x3.Seals, .L x3.Packed, .L x3.Found]] ++ p1_c) (args' := [.agg [.I x3.Bag, .I x3.Holder, .bool x3.Open, .L x3.Seals, .L x3.Packed, .L x3.Found]] ++ p1_c) rfl p1_i rfl SubL.rfl (p1_k _ _ hr4) (p1_p rfl) ?_)
    exact s0 (Wk.to (eQ ⟨rfl, rfl, rfl, rfl, rfl, rfl, trivial⟩) mN (by simp [keptRefs, LV.refs, LV.refsL, LV.cells, lev, Env.args, Env.of, Env.put, Env.drop, p1_r]) (prK rfl))
   refine LH.cond (t := r4) rfl (fun hc5 => ?_) (fun hc5 => ?_)
   ·replace h := iteT h hc5
    refine LH.seqT [(4, .I n1)] [] rfl ?_ ?_
    ·refine sMi rfl ?_
     refine sAi rfl ?_
     exact s0 (Wk.to (eQ ⟨rfl, trivial⟩) mN (by simp [keptRefs, LV.refs, LV.refsL, LV.cells, lev, Env.args, Env.of, Env.put, Env.drop, p1_r]) (prK rfl))
    refine LH.ret ?_
    refine blockR ?_
    refine thenR ?_
    refine roundR ?_
    refine blockR ?_
    refine thenR ?_
    obtain rfl := Option.some.inj h
    exact retE (congrArg Array.toList Try.results108) (lrT rfl (lr0 ⟨memN mN, rfl, prK rfl, Sub.rfl⟩))
   replace h := iteF h hc5
   refine LH.skip ?_
   refine blockN ?_
   refine thenN ?_
   refine LH.loneT [(0, .lst 6 (List.map GBag.lv p0)), (1, .fn p1_f p1_c), (7, .I (p0.length : Int)), (8, .I (i64 (n1 + 1)))] [] rfl ?_ ?_
   ·refine sN (oAdd rfl rfl ?_)
    refine sMi rfl ?_
    exact s0 (Wk.to (eQ ⟨rfl, rfl, rfl, rfl, trivial⟩) mN (by simp [keptRefs, LV.refs, LV.refsL, LV.cells, lev, Env.args, Env.of, Env.put, Env.drop, p1_r]) (prK rfl))
   exact roundI ⟨(i64 (n1 + 1)), hrec1 ▸ h, rfl, rfl⟩ (Wk.to (eQ ⟨rfl, rfl, rfl, rfl, trivial⟩) mN (by simp [keptRefs, LV.refs, LV.refsL, LV.cells, lev, Env.args, Env.of, Env.put, Env.drop, p1_r]) (prK rfl))
  replace h := iteF h hc2
  refine LH.exit ?_
  refine thenX ?_
  refine roundX ?_
  refine blockH ?_
  refine thenN ?_
  refine LH.seqT [(4, .I (-1))] [] rfl ?_ ?_
  ·refine sAi rfl ?_
   exact s0 (Wk.to (eQ ⟨rfl, trivial⟩) mN (by simp [keptRefs, LV.refs, LV.refsL, LV.cells, lev, Env.args, Env.of, Env.put, Env.drop, p1_r]) (prK rfl))
  refine LH.ret ?_
  obtain rfl := Option.some.inj h
  exact retE (congrArg Array.toList Try.results108) (lrT rfl (lr0 ⟨memN mN, rfl, prK rfl, Sub.rfl⟩))

theorem slices_ContainsFunc_Bag_Bag_ok {F : Nat} {p0 : List GBag} {p1 : (GBag → Option Bool)} {r : Bool} {p1_f : Nat} {p1_c : List LV} (p1_i : IsF Try.prog p1_f) (p1_q : LV.pureL p1_c = true) (p1_k : ∀ (x0 : GBag) (q : Bool), p1 x0 = some q → LCall Try.prog p1_f ([.agg [.I x0.Bag, .I x0.Holder, .bool x0.Open, .L x0.Seals, .L x0.Packed, .L x0.Found]] ++ p1_c) (Mem.of []) (.bool q) (Mem.of [])) (h : slices_ContainsFunc_Bag_Bag F p0 p1 = some r) : LCall Try.prog 94 [.lst 6 (List.map GBag.lv p0), .fn p1_f p1_c] (Mem.of []) (.bool r) (Mem.of []) := by
  have p1_p : ∀ {l : List LV}, LV.pureL l = true → LV.pureL (l ++ p1_c) = true := pnC p1_q
  have p1_r : LV.refsL p1_c = [] := refsL_pure p1_q
  unfold slices_ContainsFunc_Bag_Bag at h
  refine bodyT Try.func94 rfl (by rw [Try.ntmps94]; exact Nat.le_of_ble_eq_true rfl) ?_
  refine LH.wk (Wk.to (el := [(0, .lst 6 (List.map GBag.lv p0)), (1, .fn p1_f p1_c)]) (ml := []) (eQ ⟨rfl, rfl, trivial⟩) mN (by simp [keptRefs, LV.refs, LV.refsL, LV.cells, lev, Env.args, Env.of, Env.put, Env.drop, p1_r]) (prK rfl)) ?_
  refine LH.seqT [(0, .lst 6 (List.map GBag.lv p0)), (1, .fn p1_f p1_c)] [] rfl ?_ ?_
  ·refine sAb rfl ?_
   exact s0 (Wk.to (eQ ⟨rfl, rfl, trivial⟩) mN (by simp [keptRefs, LV.refs, LV.refsL, LV.cells, lev, Env.args, Env.of, Env.put, Env.drop, p1_r]) (prK rfl))
  obtain ⟨r1, hr1, h⟩ := bindS h
  refine LH.seqT [(4, .bool (decide (r1 ≥ 0)))] [] rfl ?_ ?_
  ·refine sMl rfl ?_
   refine sN (oM (v := (.fn _ _)) rfl ?_)
   refine sN (oCP (args := [.lst 6 (List.map GBag.lv p0), .fn p1_f p1_c]) rfl isF108 rfl (sbR (sbR sbN)) (slices_IndexFunc_Bag_Bag_ok p1_i p1_q p1_k hr1) (by simp [LV.pure, LV.pureL, p1_q]) ?_)
   refine sN (oGe rfl rfl ?_)
   refine sAb rfl ?_
   exact s0 (Wk.to (eQ ⟨rfl, trivial⟩) mN (by simp [keptRefs, LV.refs, LV.refsL, LV.cells, lev, Env.args, Env.of, Env.put, Env.drop, p1_r]) (prK rfl))
  refine LH.ret ?_
  obtain rfl := Option.some.inj h
  exact retE (congrArg Array.toList Try.results94) (lrT rfl (lr0 ⟨memN mN, rfl, prK rfl, Sub.rfl⟩))

theorem custody_inBags_ok {F : Nat} {p0 : List GBag} {p1 : Int} {p2 : (GBag → Option (List Int))} {r : Bool} {p2_f : Nat} {p2_c : List LV} (p2_i : IsF Try.prog p2_f) (p2_q : LV.pureL p2_c = true) (p2_k : ∀ (x0 : GBag) (q : List Int), p2 x0 = some q → LCall Try.prog p2_f ([.agg [.I x0.Bag, .I x0.Holder, .bool x0.Open, .L x0.Seals, .L x0.Packed, .L x0.Found]] ++ p2_c) (Mem.of []) (.L q) (Mem.of [])) (h : custody_inBags F p0 p1 p2 = some r) : LCall Try.prog 77 [.lst 6 (List.map GBag.lv p0), .I p1, .fn p2_f p2_c] (Mem.of []) (.bool r) (Mem.of []) := by
  have p2_p : ∀ {l : List LV}, LV.pureL l = true → LV.pureL (l ++ p2_c) = true := pnC p2_q
  have p2_r : LV.refsL p2_c = [] := refsL_pure p2_q
  unfold custody_inBags at h
  refine bodyT Try.func77 rfl (by rw [Try.ntmps77]; exact Nat.le_of_ble_eq_true rfl) ?_
  refine LH.wk (Wk.to (el := [(0, .lst 6 (List.map GBag.lv p0)), (1, .I p1), (2, .fn p2_f p2_c)]) (ml := []) (eQ ⟨rfl, rfl, rfl, trivial⟩) mN (by simp [keptRefs, LV.refs, LV.refsL, LV.cells, lev, Env.args, Env.of, Env.put, Env.drop, p2_r]) (prK rfl)) ?_
  refine LH.seqT [(0, .lst 6 (List.map GBag.lv p0)), (4, .sptr [.I p1]), (5, .sptr [.fn p2_f p2_c])] [] rfl ?_ ?_
  ·refine sB (oBxR rfl rfl rfl rfl ?_)
   refine sB (oBxR rfl rfl rfl rfl ?_)
   refine sAb rfl ?_
   exact s0 (Wk.to (eQ ⟨rfl, rfl, rfl, trivial⟩) mN (by simp [keptRefs, LV.refs, LV.refsL, LV.cells, lev, Env.args, Env.of, Env.put, Env.drop, p2_r]) (prK rfl))
  obtain ⟨r1, hr1, h⟩ := bindS h
  refine LH.seqT [(6, .bool r1)] [] rfl ?_ ?_
  ·refine sMl rfl ?_
   refine sN (oMF (vs := [.sptr [.fn p2_f p2_c], .sptr [.I p1]]) rfl ?_)
   refine sN (oCP (args := [.lst 6 (List.map GBag.lv p0), .fn 95 [.sptr [.fn p2_f p2_c], .sptr [.I p1]]]) rfl isF94 rfl (sbR (sbR sbN)) (slices_ContainsFunc_Bag_Bag_ok (p1_f := 95) (p1_c := [.sptr [.fn p2_f p2_c], .sptr [.I p1]]) isF95 (by simp [LV.pure, LV.pureL, p2_q]) (fun _ _ h => custody_inBags_1_ok p2_i p2_q p2_k h) hr1) (by simp [LV.pure, LV.pureL, p2_q]) ?_)
   refine sAb rfl ?_
   exact s0 (Wk.to (eQ ⟨rfl, trivial⟩) mN (by simp [keptRefs, LV.refs, LV.refsL, LV.cells, lev, Env.args, Env.of, Env.put, Env.drop, p2_r]) (prK rfl))
  refine LH.ret ?_
  obtain rfl := Option.some.inj h
  exact retE (congrArg Array.toList Try.results77) (lrT rfl (lr0 ⟨memN mN, rfl, prK rfl, Sub.rfl⟩))

theorem custody_sealsOf_ok {p0 : GBag} {r : List Int} (h : custody_sealsOf p0 = some r) : LCall Try.prog 43 [.agg [.I p0.Bag, .I p0.Holder, .bool p0.Open, .L p0.Seals, .L p0.Packed, .L p0.Found]] (Mem.of []) (.L r) (Mem.of []) := by
  unfold custody_sealsOf at h
  refine bodyT Try.func43 rfl (by rw [Try.ntmps43]; exact Nat.le_of_ble_eq_true rfl) ?_
  refine LH.wk (Wk.eq (el := [(0, .agg [.I p0.Bag, .I p0.Holder, .bool p0.Open, .L p0.Seals, .L p0.Packed, .L p0.Found])]) (ml := []) rfl rfl rfl rfl) ?_
  refine LH.seqT [(1, .sptr [.I p0.Bag, .I p0.Holder, .bool p0.Open, .L p0.Seals, .L p0.Packed, .L p0.Found])] [] rfl ?_ ?_
  ·refine sB (oBxR rfl rfl rfl rfl ?_)
   refine sAn rfl ?_
   exact s0 (Wk.eq rfl rfl rfl rfl)
  refine LH.seqT [(2, .L p0.Seals)] [] rfl ?_ ?_
  ·refine sN (oFaS tf46_3 tk22 ts22 rfl rfl rfl ?_)
   refine sN (oLd rfl tk22 ta22 ?_)
   refine sAl rfl ?_
   exact s0 (Wk.eq rfl rfl rfl rfl)
  refine LH.ret ?_
  obtain rfl := Option.some.inj h
  exact retE (congrArg Array.toList Try.results43) (lrT rfl (lr0 ⟨memN mN, rfl, prK rfl, Sub.rfl⟩))

theorem custody_packedOf_ok {p0 : GBag} {r : List Int} (h : custody_packedOf p0 = some r) : LCall Try.prog 44 [.agg [.I p0.Bag, .I p0.Holder, .bool p0.Open, .L p0.Seals, .L p0.Packed, .L p0.Found]] (Mem.of []) (.L r) (Mem.of []) := by
  unfold custody_packedOf at h
  refine bodyT Try.func44 rfl (by rw [Try.ntmps44]; exact Nat.le_of_ble_eq_true rfl) ?_
  refine LH.wk (Wk.eq (el := [(0, .agg [.I p0.Bag, .I p0.Holder, .bool p0.Open, .L p0.Seals, .L p0.Packed, .L p0.Found])]) (ml := []) rfl rfl rfl rfl) ?_
  refine LH.seqT [(1, .sptr [.I p0.Bag, .I p0.Holder, .bool p0.Open, .L p0.Seals, .L p0.Packed, .L p0.Found])] [] rfl ?_ ?_
  ·refine sB (oBxR rfl rfl rfl rfl ?_)
   refine sAn rfl ?_
   exact s0 (Wk.eq rfl rfl rfl rfl)
  refine LH.seqT [(2, .L p0.Packed)] [] rfl ?_ ?_
  ·refine sN (oFaS tf46_4 tk22 ts22 rfl rfl rfl ?_)
   refine sN (oLd rfl tk22 ta22 ?_)
   refine sAl rfl ?_
   exact s0 (Wk.eq rfl rfl rfl rfl)
  refine LH.ret ?_
  obtain rfl := Option.some.inj h
  exact retE (congrArg Array.toList Try.results44) (lrT rfl (lr0 ⟨memN mN, rfl, prK rfl, Sub.rfl⟩))

theorem custody_newConditions_3_1_ok {F : Nat} {p0 : Int} {c0 : List GBag} {r : Bool} (h : custody_newConditions_3_1 F p0 c0 = some r) : LCall Try.prog 78 [.I p0, .sptr [.lst 6 (List.map GBag.lv c0)]] (Mem.of []) (.bool r) (Mem.of []) := by
  unfold custody_newConditions_3_1 at h
  refine bodyT Try.func78 rfl (by rw [Try.ntmps78]; exact Nat.le_of_ble_eq_true rfl) ?_
  refine LH.wk (Wk.eq (el := [(0, .I p0), (1, .sptr [.lst 6 (List.map GBag.lv c0)])]) (ml := []) rfl rfl rfl rfl) ?_
  refine LH.seqT [(0, .I p0), (1, .sptr [.lst 6 (List.map GBag.lv c0)])] [] rfl ?_ ?_
  ·refine sAb rfl ?_
   exact s0 (Wk.eq rfl rfl rfl rfl)
  obtain ⟨r1, hr1, h⟩ := bindS h
  refine LH.seqT [(3, .bool r1)] [] rfl ?_ ?_
  ·refine sN (oLd rfl tk39 ta39 ?_)
   refine sMi rfl ?_
   refine sN (oCP (args := [.lst 6 (List.map GBag.lv c0), .I p0, .fn 44 []]) rfl isF77 rfl (sbR (sbR (sbR sbN))) (custody_inBags_ok (p2_f := 44) (p2_c := []) isF44 rfl (fun _ _ h => custody_packedOf_ok h) hr1) rfl ?_)
   refine sAb rfl ?_
   exact s0 (Wk.eq rfl rfl rfl rfl)
  refine LH.ret ?_
  obtain rfl := Option.some.inj h
  exact retE (congrArg Array.toList Try.results78) (lrT rfl (lr0 ⟨memN mN, rfl, prK rfl, Sub.rfl⟩))

theorem slices_IndexFunc_int_int_ok {F : Nat} {p0 : List Int} {p1 : (Int → Option Bool)} {r : Int} {p1_f : Nat} {p1_c : List LV} (p1_i : IsF Try.prog p1_f) (p1_q : LV.pureL p1_c = true) (p1_k : ∀ (x0 : Int) (q : Bool), p1 x0 = some q → LCall Try.prog p1_f ([.I x0] ++ p1_c) (Mem.of []) (.bool q) (Mem.of [])) (h : slices_IndexFunc_int_int F p0 p1 = some r) : LCall Try.prog 87 [.L p0, .fn p1_f p1_c] (Mem.of []) (.I r) (Mem.of []) := by
  have p1_p : ∀ {l : List LV}, LV.pureL l = true → LV.pureL (l ++ p1_c) = true := pnC p1_q
  have p1_r : LV.refsL p1_c = [] := refsL_pure p1_q
  unfold slices_IndexFunc_int_int at h
  refine bodyT Try.func87 rfl (by rw [Try.ntmps87]; exact Nat.le_of_ble_eq_true rfl) ?_
  refine LH.wk (Wk.to (el := [(0, .L p0), (1, .fn p1_f p1_c)]) (ml := []) (eQ ⟨rfl, rfl, trivial⟩) mN (by simp [keptRefs, LV.refs, LV.refsL, LV.cells, lev, Env.args, Env.of, Env.put, Env.drop, p1_r]) (prK rfl)) ?_
  refine LH.seqT [(0, .L p0), (1, .fn p1_f p1_c)] [] rfl ?_ ?_
  ·refine sAi rfl ?_
   exact s0 (Wk.to (eQ ⟨rfl, rfl, trivial⟩) mN (by simp [keptRefs, LV.refs, LV.refsL, LV.cells, lev, Env.args, Env.of, Env.put, Env.drop, p1_r]) (prK rfl))
  refine LH.seq ?_
  refine LH.seqT [(0, .L p0), (1, .fn p1_f p1_c), (7, .I (p0.length : Int)), (8, .I 0)] [] rfl ?_ ?_
  ·refine sMl rfl ?_
   refine sN (oLnL (f := LV.I) te22 rfl ?_)
   refine sMi rfl ?_
   exact s0 (Wk.to (eQ ⟨rfl, rfl, rfl, rfl, trivial⟩) mN (by simp [keptRefs, LV.refs, LV.refsL, LV.cells, lev, Env.args, Env.of, Env.put, Env.drop, p1_r]) (prK rfl))
  refine LH.block ?_
  refine LH.loop (fun n e m => ∃ (n1 : Int), slices_IndexFunc_int_int_L1 p0 p1 n n1 = some r ∧ e = Env.of [(0, .L p0), (1, .fn p1_f p1_c), (7, .I (p0.length : Int)), (8, .I n1)] ∧ m = Mem.of []) F ⟨0, h, rfl, rfl⟩ ?_
  clear h
  rintro n e m ⟨n1, h, rfl, rfl⟩
  rcases n with _ | n
  · cases (show Option.none = some _ from h)
  obtain ⟨rec1, hrec1⟩ : ∃ f, f = slices_IndexFunc_int_int_L1 p0 p1 n := ⟨_, rfl⟩
  replace h : slices_IndexFunc_int_int_L1_B p0 p1 rec1 n1 = some r := hrec1 ▸ h
  unfold slices_IndexFunc_int_int_L1_B at h
  refine LH.seqT [(0, .L p0), (1, .fn p1_f p1_c), (7, .I (p0.length : Int)), (8, .I n1), (9, .bool (decide (n1 < (p0.length : Int))))] [] rfl ?_ ?_
  ·refine sN (oLt rfl rfl ?_)
   exact s0 (Wk.to (eQ ⟨rfl, rfl, rfl, rfl, rfl, trivial⟩) mN (by simp [keptRefs, LV.refs, LV.refsL, LV.cells, lev, Env.args, Env.of, Env.put, Env.drop, p1_r]) (prK rfl))
  refine LH.seq ?_
  refine LH.cond (t := (decide (n1 < (p0.length : Int)))) rfl (fun hc2 => ?_) (fun hc2 => ?_)
  ·replace h := iteT h hc2
   refine LH.skip ?_
   refine thenN ?_
   refine LH.wk (Wk.to (el := [(0, .L p0), (1, .fn p1_f p1_c), (7, .I (p0.length : Int)), (8, .I n1)]) (ml := []) (eQ ⟨rfl, rfl, rfl, rfl, trivial⟩) mN (by simp [keptRefs, LV.refs, LV.refsL, LV.cells, lev, Env.args, Env.of, Env.put, Env.drop, p1_r]) (prK rfl)) ?_
   refine LH.seq ?_
   refine LH.block ?_
   refine LH.seqT [(0, .L p0), (1, .fn p1_f p1_c), (5, .I n1), (7, .I (p0.length : Int)), (8, .I n1)] [] rfl ?_ ?_
   ·refine sMi rfl ?_
    refine sAi rfl ?_
    exact s0 (Wk.to (eQ ⟨rfl, rfl, rfl, rfl, rfl, trivial⟩) mN (by simp [keptRefs, LV.refs, LV.refsL, LV.cells, lev, Env.args, Env.of, Env.put, Env.drop, p1_r]) (prK rfl))
   obtain ⟨x3, hx3, h⟩ := bindS h
   obtain ⟨r4, hr4, h⟩ := bindS h
   refine LH.seqT [(0, .L p0), (1, .fn p1_f p1_c), (5, .I n1), (7, .I (p0.length : Int)), (8, .I n1), (16, .bool r4)] [] rfl ?_ ?_
   ·refine sN (oM (v := (.fn _ _)) rfl ?_)
    refine sMl rfl ?_
    refine sMi rfl ?_
    refine sN (oIx (f := LV.I) te22 tk3 ts3 rfl rfl okI hx3 rfl ?_)
    refine sN (oLd rfl tk3 ta3 ?_)
    refine sN (oCP (args := [.I x3] ++ p1_c) (args' := [.I x3] ++ p1_c) rfl p1_i rfl SubL.rfl (p1_k _ _ hr4) (p1_p rfl) ?_)
    exact s0 (Wk.to (eQ ⟨rfl, rfl, rfl, rfl, rfl, rfl, trivial⟩) mN (by simp [keptRefs, LV.refs, LV.refsL, LV.cells, lev, Env.args, Env.of, Env.put, Env.drop, p1_r]) (prK rfl))
   refine LH.cond (t := r4) rfl (fun hc5 => ?_) (fun hc5 => ?_)
   ·replace h := iteT h hc5
    refine LH.seqT [(4, .I n1)] [] rfl ?_ ?_
    ·refine sMi rfl ?_
     refine sAi rfl ?_
     exact s0 (Wk.to (eQ ⟨rfl, trivial⟩) mN (by simp [keptRefs, LV.refs, LV.refsL, LV.cells, lev, Env.args, Env.of, Env.put, Env.drop, p1_r]) (prK rfl))
    refine LH.ret ?_
    refine blockR ?_
    refine thenR ?_
    refine roundR ?_
    refine blockR ?_
    refine thenR ?_
    obtain rfl := Option.some.inj h
    exact retE (congrArg Array.toList Try.results87) (lrT rfl (lr0 ⟨memN mN, rfl, prK rfl, Sub.rfl⟩))
   replace h := iteF h hc5
   refine LH.skip ?_
   refine blockN ?_
   refine thenN ?_
   refine LH.loneT [(0, .L p0), (1, .fn p1_f p1_c), (7, .I (p0.length : Int)), (8, .I (i64 (n1 + 1)))] [] rfl ?_ ?_
   ·refine sN (oAdd rfl rfl ?_)
    refine sMi rfl ?_
    exact s0 (Wk.to (eQ ⟨rfl, rfl, rfl, rfl, trivial⟩) mN (by simp [keptRefs, LV.refs, LV.refsL, LV.cells, lev, Env.args, Env.of, Env.put, Env.drop, p1_r]) (prK rfl))
   exact roundI ⟨(i64 (n1 + 1)), hrec1 ▸ h, rfl, rfl⟩ (Wk.to (eQ ⟨rfl, rfl, rfl, rfl, trivial⟩) mN (by simp [keptRefs, LV.refs, LV.refsL, LV.cells, lev, Env.args, Env.of, Env.put, Env.drop, p1_r]) (prK rfl))
  replace h := iteF h hc2
  refine LH.exit ?_
  refine thenX ?_
  refine roundX ?_
  refine blockH ?_
  refine thenN ?_
  refine LH.seqT [(4, .I (-1))] [] rfl ?_ ?_
  ·refine sAi rfl ?_
   exact s0 (Wk.to (eQ ⟨rfl, trivial⟩) mN (by simp [keptRefs, LV.refs, LV.refsL, LV.cells, lev, Env.args, Env.of, Env.put, Env.drop, p1_r]) (prK rfl))
  refine LH.ret ?_
  obtain rfl := Option.some.inj h
  exact retE (congrArg Array.toList Try.results87) (lrT rfl (lr0 ⟨memN mN, rfl, prK rfl, Sub.rfl⟩))

theorem slices_ContainsFunc_int_int_ok {F : Nat} {p0 : List Int} {p1 : (Int → Option Bool)} {r : Bool} {p1_f : Nat} {p1_c : List LV} (p1_i : IsF Try.prog p1_f) (p1_q : LV.pureL p1_c = true) (p1_k : ∀ (x0 : Int) (q : Bool), p1 x0 = some q → LCall Try.prog p1_f ([.I x0] ++ p1_c) (Mem.of []) (.bool q) (Mem.of [])) (h : slices_ContainsFunc_int_int F p0 p1 = some r) : LCall Try.prog 63 [.L p0, .fn p1_f p1_c] (Mem.of []) (.bool r) (Mem.of []) := by
  have p1_p : ∀ {l : List LV}, LV.pureL l = true → LV.pureL (l ++ p1_c) = true := pnC p1_q
  have p1_r : LV.refsL p1_c = [] := refsL_pure p1_q
  unfold slices_ContainsFunc_int_int at h
  refine bodyT Try.func63 rfl (by rw [Try.ntmps63]; exact Nat.le_of_ble_eq_true rfl) ?_
  refine LH.wk (Wk.to (el := [(0, .L p0), (1, .fn p1_f p1_c)]) (ml := []) (eQ ⟨rfl, rfl, trivial⟩) mN (by simp [keptRefs, LV.refs, LV.refsL, LV.cells, lev, Env.args, Env.of, Env.put, Env.drop, p1_r]) (prK rfl)) ?_
  refine LH.seqT [(0, .L p0), (1, .fn p1_f p1_c)] [] rfl ?_ ?_
  ·refine sAb rfl ?_
   exact s0 (Wk.to (eQ ⟨rfl, rfl, trivial⟩) mN (by simp [keptRefs, LV.refs, LV.refsL, LV.cells, lev, Env.args, Env.of, Env.put, Env.drop, p1_r]) (prK rfl))
  obtain ⟨r1, hr1, h⟩ := bindS h
  refine LH.seqT [(4, .bool (decide (r1 ≥ 0)))] [] rfl ?_ ?_
  ·refine sMl rfl ?_
   refine sN (oM (v := (.fn _ _)) rfl ?_)
   refine sN (oCP (args := [.L p0, .fn p1_f p1_c]) rfl isF87 rfl (sbR (sbR sbN)) (slices_IndexFunc_int_int_ok p1_i p1_q p1_k hr1) (by simp [LV.pure, LV.pureL, p1_q]) ?_)
   refine sN (oGe rfl rfl ?_)
   refine sAb rfl ?_
   exact s0 (Wk.to (eQ ⟨rfl, trivial⟩) mN (by simp [keptRefs, LV.refs, LV.refsL, LV.cells, lev, Env.args, Env.of, Env.put, Env.drop, p1_r]) (prK rfl))
  refine LH.ret ?_
  obtain rfl := Option.some.inj h
  exact retE (congrArg Array.toList Try.results63) (lrT rfl (lr0 ⟨memN mN, rfl, prK rfl, Sub.rfl⟩))

theorem custody_newConditions_3_ok {F : Nat} {c0 : List GBag} {c1 : GBagEvent} {r : Bool} (h : custody_newConditions_3 F c0 c1 = some r) : LCall Try.prog 76 [.sptr [.lst 6 (List.map GBag.lv c0)], .sptr [.I c1.Stamp.Time, .I c1.Stamp.Source, .I c1.Stamp.Seq, .I c1.Kind, .I c1.Bag, .I c1.Seal, .I c1.From, .I c1.To, .L c1.Candidates]] (Mem.of []) (.bool r) (Mem.of []) := by
  unfold custody_newConditions_3 at h
  refine bodyT Try.func76 rfl (by rw [Try.ntmps76]; exact Nat.le_of_ble_eq_true rfl) ?_
  refine LH.wk (Wk.eq (el := [(0, .sptr [.lst 6 (List.map GBag.lv c0)]), (1, .sptr [.I c1.Stamp.Time, .I c1.Stamp.Source, .I c1.Stamp.Seq, .I c1.Kind, .I c1.Bag, .I c1.Seal, .I c1.From, .I c1.To, .L c1.Candidates])]) (ml := []) rfl rfl rfl rfl) ?_
  refine LH.seqT [(0, .sptr [.lst 6 (List.map GBag.lv c0)]), (1, .sptr [.I c1.Stamp.Time, .I c1.Stamp.Source, .I c1.Stamp.Seq, .I c1.Kind, .I c1.Bag, .I c1.Seal, .I c1.From, .I c1.To, .L c1.Candidates])] [] rfl ?_ ?_
  ·refine sAb rfl ?_
   exact s0 (Wk.eq rfl rfl rfl rfl)
  obtain ⟨w2, hv, h⟩ := bindS h
  refine LH.seqT [(2, .bool w2)] [] rfl ?_ ?_
  ·refine sN (oLd rfl tk39 ta39 ?_)
   refine sN (oFaS tf34_3 tk3 ts3 rfl rfl rfl ?_)
   refine sN (oLd rfl tk3 ta3 ?_)
   obtain ⟨r3, hr3, hv⟩ := bindS hv
   refine sN (oCP (args := [.lst 6 (List.map GBag.lv c0), .I c1.Seal, .fn 43 []]) rfl isF77 rfl (sbR (sbR (sbR sbN))) (custody_inBags_ok (p2_f := 43) (p2_c := []) isF43 rfl (fun _ _ h => custody_sealsOf_ok h) hr3) rfl ?_)
   refine sMb rfl ?_
   by_cases hb4 : r3 = true
   ·replace hv := iteT hv hb4
    refine sF rfl rfl hb4 ?_
    refine sF rfl rfl hb4 ?_
    refine sF rfl rfl hb4 ?_
    refine sF rfl rfl hb4 ?_
    refine sN (oPkT (congrArg LV.bool hb4) (v := (.bool _)) rfl ?_)
    refine sAb rfl ?_
    obtain rfl := Option.some.inj hv
    exact s0 (Wk.eq rfl rfl rfl rfl)
   ·replace hb4 := bF hb4
    replace hv := iteF hv hb4
    refine sT rfl (congrArg LV.bool hb4) (oFaS tf34_6 tk22 ts22 rfl rfl rfl ?_)
    refine sT rfl (congrArg LV.bool hb4) (oLd rfl tk22 ta22 ?_)
    refine sT rfl (congrArg LV.bool hb4) (oMF (vs := [.sptr [.lst 6 (List.map GBag.lv c0)]]) rfl ?_)
    obtain ⟨r5, hr5, hv⟩ := bindS hv
    refine sT rfl (congrArg LV.bool hb4) (oCP (args := [.L c1.Candidates, .fn 78 [.sptr [.lst 6 (List.map GBag.lv c0)]]]) rfl isF63 rfl (sbR (sbR sbN)) (slices_ContainsFunc_int_int_ok (p1_f := 78) (p1_c := [.sptr [.lst 6 (List.map GBag.lv c0)]]) isF78 rfl (fun _ _ h => custody_newConditions_3_1_ok h) hr5) rfl ?_)
    refine sN (oPkF (congrArg LV.bool hb4) (v := (.bool _)) rfl ?_)
    refine sAb rfl ?_
    obtain rfl := Option.some.inj hv
    exact s0 (Wk.eq rfl rfl rfl rfl)
  clear hv
  refine LH.ret ?_
  obtain rfl := Option.some.inj h
  exact retE (congrArg Array.toList Try.results76) (lrT rfl (lr0 ⟨memN mN, rfl, prK rfl, Sub.rfl⟩))

theorem custody_newConditions_4_ok {c0 : List GBag} {r : Bool} (h : custody_newConditions_4 c0 = some r) : LCall Try.prog 79 [.sptr [.lst 6 (List.map GBag.lv c0)]] (Mem.of []) (.bool r) (Mem.of []) := by
  unfold custody_newConditions_4 at h
  refine bodyT Try.func79 rfl (by rw [Try.ntmps79]; exact Nat.le_of_ble_eq_true rfl) ?_
  refine LH.wk (Wk.eq (el := [(0, .sptr [.lst 6 (List.map GBag.lv c0)])]) (ml := []) rfl rfl rfl rfl) ?_
  refine LH.seqT [(0, .sptr [.lst 6 (List.map GBag.lv c0)])] [] rfl ?_ ?_
  ·refine sAb rfl ?_
   exact s0 (Wk.eq rfl rfl rfl rfl)
  refine LH.seqT [(1, .bool (decide ((c0.length : Int) ≥ 20)))] [] rfl ?_ ?_
  ·refine sN (oLd rfl tk39 ta39 ?_)
   refine sN (oLnL (f := GBag.lv) te39 rfl ?_)
   refine sN (oGe rfl rfl ?_)
   refine sAb rfl ?_
   exact s0 (Wk.eq rfl rfl rfl rfl)
  refine LH.ret ?_
  obtain rfl := Option.some.inj h
  exact retE (congrArg Array.toList Try.results79) (lrT rfl (lr0 ⟨memN mN, rfl, prK rfl, Sub.rfl⟩))

theorem custody_newConditions_ok {F : Nat} {p0 : List GBag} {p1 : GBagEvent} {p2 : Bool} {r : List custody_condition} (h : custody_newConditions F p0 p1 p2 = some r) : LCall Try.prog 56 [.lst 6 (List.map GBag.lv p0), .agg [.I p1.Stamp.Time, .I p1.Stamp.Source, .I p1.Stamp.Seq, .I p1.Kind, .I p1.Bag, .I p1.Seal, .I p1.From, .I p1.To, .L p1.Candidates], .bool p2] (Mem.of []) (.lst 2 (List.map custody_condition.lv r)) (Mem.of []) := by
  unfold custody_newConditions at h
  refine bodyT Try.func56 rfl (by rw [Try.ntmps56]; exact Nat.le_of_ble_eq_true rfl) ?_
  refine LH.wk (Wk.eq (el := [(0, .lst 6 (List.map GBag.lv p0)), (1, .agg [.I p1.Stamp.Time, .I p1.Stamp.Source, .I p1.Stamp.Seq, .I p1.Kind, .I p1.Bag, .I p1.Seal, .I p1.From, .I p1.To, .L p1.Candidates]), (2, .bool p2)]) (ml := []) rfl rfl rfl rfl) ?_
  refine LH.seqT [(3, .sptr [.lst 6 (List.map GBag.lv p0)]), (4, .sptr [.I p1.Stamp.Time, .I p1.Stamp.Source, .I p1.Stamp.Seq, .I p1.Kind, .I p1.Bag, .I p1.Seal, .I p1.From, .I p1.To, .L p1.Candidates]), (5, .sptr [.bool p2])] [] rfl ?_ ?_
  ·refine sB (oBxR rfl rfl rfl rfl ?_)
   refine sB (oBxR rfl rfl rfl rfl ?_)
   refine sB (oBxR rfl rfl rfl rfl ?_)
   refine sAn rfl ?_
   exact s0 (Wk.eq rfl rfl rfl rfl)
  refine LH.seqT [(6, .lst 2 (List.map custody_condition.lv ([(custody_condition.mk 8 (FnV.mk 74 [.sptr [.I p1.Stamp.Time, .I p1.Stamp.Source, .I p1.Stamp.Seq, .I p1.Kind, .I p1.Bag, .I p1.Seal, .I p1.From, .I p1.To, .L p1.Candidates]] (custody_newConditions_1 p1) rfl)), (custody_condition.mk 5 (FnV.mk 75 [.sptr [.bool p2]] (custody_newConditions_2 p2) rfl)), (custody_condition.mk 9 (FnV.mk 76 [.sptr [.lst 6 (List.map GBag.lv p0)], .sptr [.I p1.Stamp.Time, .I p1.Stamp.Source, .I p1.Stamp.Seq, .I p1.Kind, .I p1.Bag, .I p1.Seal, .I p1.From, .I p1.To, .L p1.Candidates]] (custody_newConditions_3 F p0 p1) rfl)), (custody_condition.mk 3 (FnV.mk 79 [.sptr [.lst 6 (List.map GBag.lv p0)]] (custody_newConditions_4 p0) rfl))])))] [] rfl ?_ ?_
  ·refine sN (oMF (vs := [.sptr [.I p1.Stamp.Time, .I p1.Stamp.Source, .I p1.Stamp.Seq, .I p1.Kind, .I p1.Bag, .I p1.Seal, .I p1.From, .I p1.To, .L p1.Candidates]]) rfl ?_)
   refine sN (oBd (vs := [(0, .I 8), (1, .fn 74 [.sptr [.I p1.Stamp.Time, .I p1.Stamp.Source, .I p1.Stamp.Seq, .I p1.Kind, .I p1.Bag, .I p1.Seal, .I p1.From, .I p1.To, .L p1.Candidates]])]) tu87 tz87 rfl (lf tf87_0 ts27 tk27 rfl rfl rfl (lf tf87_1 ts36 tk36 rfl rfl rfl lf0)) ?_)
   refine sN (oMF (vs := [.sptr [.bool p2]]) rfl ?_)
   refine sN (oBd (vs := [(0, .I 5), (1, .fn 75 [.sptr [.bool p2]])]) tu87 tz87 rfl (lf tf87_0 ts27 tk27 rfl rfl rfl (lf tf87_1 ts36 tk36 rfl rfl rfl lf0)) ?_)
   refine sN (oMF (vs := [.sptr [.lst 6 (List.map GBag.lv p0)], .sptr [.I p1.Stamp.Time, .I p1.Stamp.Source, .I p1.Stamp.Seq, .I p1.Kind, .I p1.Bag, .I p1.Seal, .I p1.From, .I p1.To, .L p1.Candidates]]) rfl ?_)
   refine sN (oBd (vs := [(0, .I 9), (1, .fn 76 [.sptr [.lst 6 (List.map GBag.lv p0)], .sptr [.I p1.Stamp.Time, .I p1.Stamp.Source, .I p1.Stamp.Seq, .I p1.Kind, .I p1.Bag, .I p1.Seal, .I p1.From, .I p1.To, .L p1.Candidates]])]) tu87 tz87 rfl (lf tf87_0 ts27 tk27 rfl rfl rfl (lf tf87_1 ts36 tk36 rfl rfl rfl lf0)) ?_)
   refine sN (oMF (vs := [.sptr [.lst 6 (List.map GBag.lv p0)]]) rfl ?_)
   refine sN (oBd (vs := [(0, .I 3), (1, .fn 79 [.sptr [.lst 6 (List.map GBag.lv p0)]])]) tu87 tz87 rfl (lf tf87_0 ts27 tk27 rfl rfl rfl (lf tf87_1 ts36 tk36 rfl rfl rfl lf0)) ?_)
   refine sN (oBS (f := custody_condition.lv) (ys := [(custody_condition.mk 8 (FnV.mk 74 [.sptr [.I p1.Stamp.Time, .I p1.Stamp.Source, .I p1.Stamp.Seq, .I p1.Kind, .I p1.Bag, .I p1.Seal, .I p1.From, .I p1.To, .L p1.Candidates]] (custody_newConditions_1 p1) rfl)), (custody_condition.mk 5 (FnV.mk 75 [.sptr [.bool p2]] (custody_newConditions_2 p2) rfl)), (custody_condition.mk 9 (FnV.mk 76 [.sptr [.lst 6 (List.map GBag.lv p0)], .sptr [.I p1.Stamp.Time, .I p1.Stamp.Source, .I p1.Stamp.Seq, .I p1.Kind, .I p1.Bag, .I p1.Seal, .I p1.From, .I p1.To, .L p1.Candidates]] (custody_newConditions_3 F p0 p1) rfl)), (custody_condition.mk 3 (FnV.mk 79 [.sptr [.lst 6 (List.map GBag.lv p0)]] (custody_newConditions_4 p0) rfl))]) te88 tr87 ts87 rfl rfl rfl custody_condition.ok ?_)
   refine sAl rfl ?_
   exact s0 (Wk.eq rfl rfl rfl rfl)
  refine LH.ret ?_
  obtain rfl := Option.some.inj h
  exact retE (congrArg Array.toList Try.results56) (lrT rfl (lr0 ⟨memN mN, rfl, prK rfl, Sub.rfl⟩))
theorem custody_newConditions_fn {F : Nat} {p0 : List GBag} {p1 : GBagEvent} {p2 : Bool} {r : List custody_condition} (h : custody_newConditions F p0 p1 p2 = some r) : ∀ x ∈ r, FnOk Try.prog x.holds := by
  unfold custody_newConditions at h
  obtain rfl := Option.some.inj h
  exact (fnC ⟨isF74, fun _ h => custody_newConditions_1_ok h⟩ (fnC ⟨isF75, fun _ h => custody_newConditions_2_ok h⟩ (fnC ⟨isF76, fun _ h => custody_newConditions_3_ok h⟩ (fnC ⟨isF79, fun _ h => custody_newConditions_4_ok h⟩ fnN))))

theorem custody_oldConditions_1_ok {c0 : Bool} {r : Bool} (h : custody_oldConditions_1 c0 = some r) : LCall Try.prog 80 [.sptr [.bool c0]] (Mem.of []) (.bool r) (Mem.of []) := by
  unfold custody_oldConditions_1 at h
  refine bodyT Try.func80 rfl (by rw [Try.ntmps80]; exact Nat.le_of_ble_eq_true rfl) ?_
  refine LH.wk (Wk.eq (el := [(0, .sptr [.bool c0])]) (ml := []) rfl rfl rfl rfl) ?_
  refine LH.seqT [(0, .sptr [.bool c0])] [] rfl ?_ ?_
  ·refine sAb rfl ?_
   exact s0 (Wk.eq rfl rfl rfl rfl)
  refine LH.seqT [(1, .bool (!c0))] [] rfl ?_ ?_
  ·refine sN (oLd rfl tk4 ta4 ?_)
   refine sN (oNot rfl ?_)
   refine sAb rfl ?_
   exact s0 (Wk.eq rfl rfl rfl rfl)
  refine LH.ret ?_
  obtain rfl := Option.some.inj h
  exact retE (congrArg Array.toList Try.results80) (lrT rfl (lr0 ⟨memN mN, rfl, prK rfl, Sub.rfl⟩))

theorem custody_oldConditions_2_ok {c0 : List GBag} {c1 : Int} {c2 : GBagEvent} {r : Bool} (h : custody_oldConditions_2 c0 c1 c2 = some r) : LCall Try.prog 81 [.sptr [.lst 6 (List.map GBag.lv c0)], .sptr [.I c1], .sptr [.I c2.Stamp.Time, .I c2.Stamp.Source, .I c2.Stamp.Seq, .I c2.Kind, .I c2.Bag, .I c2.Seal, .I c2.From, .I c2.To, .L c2.Candidates]] (Mem.of []) (.bool r) (Mem.of []) := by
  unfold custody_oldConditions_2 at h
  refine bodyT Try.func81 rfl (by rw [Try.ntmps81]; exact Nat.le_of_ble_eq_true rfl) ?_
  refine LH.wk (Wk.eq (el := [(0, .sptr [.lst 6 (List.map GBag.lv c0)]), (1, .sptr [.I c1]), (2, .sptr [.I c2.Stamp.Time, .I c2.Stamp.Source, .I c2.Stamp.Seq, .I c2.Kind, .I c2.Bag, .I c2.Seal, .I c2.From, .I c2.To, .L c2.Candidates])]) (ml := []) rfl rfl rfl rfl) ?_
  refine LH.seqT [(0, .sptr [.lst 6 (List.map GBag.lv c0)]), (1, .sptr [.I c1]), (2, .sptr [.I c2.Stamp.Time, .I c2.Stamp.Source, .I c2.Stamp.Seq, .I c2.Kind, .I c2.Bag, .I c2.Seal, .I c2.From, .I c2.To, .L c2.Candidates])] [] rfl ?_ ?_
  ·refine sAb rfl ?_
   exact s0 (Wk.eq rfl rfl rfl rfl)
  obtain ⟨w2, hv, h⟩ := bindS h
  refine LH.seqJM mixed [] [0, 0, 0, 0, 0, 0, 0, 0, 0, 0, 0, 0, 0, 0, 0, 0, 0, 0, 0, 0, 0, 0, 0, 0, 0, 0, 0, 0, 0, 0, 0, 0, 0, 0, 0, 0, 0, 0] [(3, .bool w2)] [] rfl rfl (by kernel_rfl) ?_ ?_
  ·refine mN0 (oLd rfl tk39 ta39 ⟨rfl, ?_⟩)
   refine mN0 (oLd rfl tk3 ta3 ⟨rfl, ?_⟩)
   obtain ⟨x3, hx3, hv⟩ := bindS hv
   refine mN0 (oIx (f := GBag.lv) te39 tk46 ts46 rfl rfl GBag.ok hx3 rfl ⟨rfl, ?_⟩)
   refine mN0 (oFaS tf46_2 tk4 ts4 rfl rfl rfl ⟨rfl, ?_⟩)
   refine mN0 (oLd rfl tk4 ta4 ⟨rfl, ?_⟩)
   refine mN0 (oM (v := (.bool _)) rfl ⟨rfl, ?_⟩)
   by_cases hb4 : x3.Open = true
   ·replace hv := iteT hv hb4
    refine mF rfl rfl hb4 ?_
    refine mF rfl rfl hb4 ?_
    refine mF rfl rfl hb4 ?_
    refine mF rfl rfl hb4 ?_
    refine mF rfl rfl hb4 ?_
    refine mF rfl rfl hb4 ?_
    refine mF rfl rfl hb4 ?_
    refine mF rfl rfl hb4 ?_
    refine mN0 (oPkT (congrArg LV.bool hb4) (v := (.bool _)) rfl ⟨rfl, ?_⟩)
    refine mN0 (oM (v := (.bool _)) rfl ⟨rfl, ?_⟩)
    refine mF rfl rfl rfl ?_
    refine mF rfl rfl rfl ?_
    refine mF rfl rfl rfl ?_
    refine mF rfl rfl rfl ?_
    refine mU rfl rfl ?_
    refine mU rfl rfl ?_
    refine mU rfl rfl ?_
    refine mU rfl rfl ?_
    refine mU rfl rfl ?_
    refine mF rfl rfl rfl ?_
    refine mN0 (oPkT rfl (v := (.bool _)) rfl ⟨rfl, ?_⟩)
    refine mN0 (oM (v := (.bool _)) rfl ⟨rfl, ?_⟩)
    refine mF rfl rfl rfl ?_
    refine mF rfl rfl rfl ?_
    refine mF rfl rfl rfl ?_
    refine mF rfl rfl rfl ?_
    refine mU rfl rfl ?_
    refine mU rfl rfl ?_
    refine mU rfl rfl ?_
    refine mF rfl rfl rfl ?_
    refine mN0 (oPkT rfl (v := (.bool _)) rfl ⟨rfl, ?_⟩)
    refine mN0 (oA (v := (.bool _)) rfl ⟨rfl, ?_⟩)
    obtain rfl := Option.some.inj hv
    exact m0 (Wk.eq rfl rfl rfl rfl)
   ·replace hb4 := bF hb4
    replace hv := iteF hv hb4
    refine mT rfl (congrArg LV.bool hb4) (mN0 (oLd rfl tk39 ta39 ⟨rfl, ?_⟩))
    refine mT rfl (congrArg LV.bool hb4) (mN0 (oLd rfl tk3 ta3 ⟨rfl, ?_⟩))
    obtain ⟨x5, hx5, hv⟩ := bindS hv
    refine mT rfl (congrArg LV.bool hb4) (mN0 (oIx (f := GBag.lv) te39 tk46 ts46 rfl rfl GBag.ok hx5 rfl ⟨rfl, ?_⟩))
    refine mT rfl (congrArg LV.bool hb4) (mN0 (oFaS tf46_1 tk3 ts3 rfl rfl rfl ⟨rfl, ?_⟩))
    refine mT rfl (congrArg LV.bool hb4) (mN0 (oLd rfl tk3 ta3 ⟨rfl, ?_⟩))
    refine mT rfl (congrArg LV.bool hb4) (mN0 (oFaS tf34_4 tk3 ts3 rfl rfl rfl ⟨rfl, ?_⟩))
    refine mT rfl (congrArg LV.bool hb4) (mN0 (oLd rfl tk3 ta3 ⟨rfl, ?_⟩))
    refine mT rfl (congrArg LV.bool hb4) (mN0 (oNe rfl rfl ⟨rfl, ?_⟩))
    refine mN0 (oPkF (congrArg LV.bool hb4) (v := (.bool _)) rfl ⟨rfl, ?_⟩)
    refine mN0 (oM (v := (.bool _)) rfl ⟨rfl, ?_⟩)
    by_cases hb6 : (x5.Holder != c2.From) = true
    ·replace hv := iteT hv hb6
     refine mF rfl rfl hb6 ?_
     refine mF rfl rfl hb6 ?_
     refine mF rfl rfl hb6 ?_
     refine mF rfl rfl hb6 ?_
     refine mU rfl rfl ?_
     refine mU rfl rfl ?_
     refine mU rfl rfl ?_
     refine mU rfl rfl ?_
     refine mU rfl rfl ?_
     refine mF rfl rfl hb6 ?_
     refine mN0 (oPkT (congrArg LV.bool hb6) (v := (.bool _)) rfl ⟨rfl, ?_⟩)
     refine mN0 (oM (v := (.bool _)) rfl ⟨rfl, ?_⟩)
     refine mF rfl rfl rfl ?_
     refine mF rfl rfl rfl ?_
     refine mF rfl rfl rfl ?_
     refine mF rfl rfl rfl ?_
     refine mU rfl rfl ?_
     refine mU rfl rfl ?_
     refine mU rfl rfl ?_
     refine mF rfl rfl rfl ?_
     refine mN0 (oPkT rfl (v := (.bool _)) rfl ⟨rfl, ?_⟩)
     refine mN0 (oA (v := (.bool _)) rfl ⟨rfl, ?_⟩)
     obtain rfl := Option.some.inj hv
     exact m0 (Wk.eq rfl rfl rfl rfl)
    ·replace hb6 := bF hb6
     replace hv := iteF hv hb6
     refine mT rfl (congrArg LV.bool hb6) (mN0 (oFaS tf34_1 tk3 ts3 rfl rfl rfl ⟨rfl, ?_⟩))
     refine mT rfl (congrArg LV.bool hb6) (mN0 (oLd rfl tk3 ta3 ⟨rfl, ?_⟩))
     refine mT rfl (congrArg LV.bool hb6) (mN0 (oEq rfl rfl ⟨rfl, ?_⟩))
     refine mT rfl (congrArg LV.bool hb6) (mN0 (oM (v := (.bool _)) rfl ⟨rfl, ?_⟩))
     by_cases hb7 : (c2.Kind == 2) = true
     ·replace hv := iteT hv hb7
      refine mT rfl (congrArg LV.bool hb7) (mN0 (oFaS tf34_5 tk3 ts3 rfl rfl rfl ⟨rfl, ?_⟩))
      refine mT rfl (congrArg LV.bool hb7) (mN0 (oLd rfl tk3 ta3 ⟨rfl, ?_⟩))
      refine mT rfl (congrArg LV.bool hb7) (mN0 (oFaS tf34_4 tk3 ts3 rfl rfl rfl ⟨rfl, ?_⟩))
      refine mT rfl (congrArg LV.bool hb7) (mN0 (oLd rfl tk3 ta3 ⟨rfl, ?_⟩))
      refine mT rfl (congrArg LV.bool hb7) (mN0 (oEq rfl rfl ⟨rfl, ?_⟩))
      refine mT rfl (congrArg LV.bool hb6) (mN0 (oPkT (congrArg LV.bool hb7) (v := (.bool _)) rfl ⟨rfl, ?_⟩))
      refine mN0 (oPkF (congrArg LV.bool hb6) (v := (.bool _)) rfl ⟨rfl, ?_⟩)
      refine mN0 (oM (v := (.bool _)) rfl ⟨rfl, ?_⟩)
      by_cases hb8 : (c2.To == c2.From) = true
      ·replace hv := iteT hv hb8
       refine mF rfl rfl hb8 ?_
       refine mF rfl rfl hb8 ?_
       refine mF rfl rfl hb8 ?_
       refine mF rfl rfl hb8 ?_
       refine mU rfl rfl ?_
       refine mU rfl rfl ?_
       refine mU rfl rfl ?_
       refine mF rfl rfl hb8 ?_
       refine mN0 (oPkT (congrArg LV.bool hb8) (v := (.bool _)) rfl ⟨rfl, ?_⟩)
       refine mN0 (oA (v := (.bool _)) rfl ⟨rfl, ?_⟩)
       obtain rfl := Option.some.inj hv
       exact m0 (Wk.eq rfl rfl rfl rfl)
      ·replace hb8 := bF hb8
       replace hv := iteF hv hb8
       refine mT rfl (congrArg LV.bool hb8) (mN0 (oFaS tf34_1 tk3 ts3 rfl rfl rfl ⟨rfl, ?_⟩))
       refine mT rfl (congrArg LV.bool hb8) (mN0 (oLd rfl tk3 ta3 ⟨rfl, ?_⟩))
       refine mT rfl (congrArg LV.bool hb8) (mN0 (oEq rfl rfl ⟨rfl, ?_⟩))
       refine mT rfl (congrArg LV.bool hb8) (mN0 (oM (v := (.bool _)) rfl ⟨rfl, ?_⟩))
       by_cases hb9 : (c2.Kind == 3) = true
       ·replace hv := iteT hv hb9
        refine mT rfl (congrArg LV.bool hb9) (mN0 (oFaS tf34_4 tk3 ts3 rfl rfl rfl ⟨rfl, ?_⟩))
        refine mT rfl (congrArg LV.bool hb9) (mN0 (oLd rfl tk3 ta3 ⟨rfl, ?_⟩))
        refine mT rfl (congrArg LV.bool hb9) (mN0 (oNe rfl rfl ⟨rfl, ?_⟩))
        refine mT rfl (congrArg LV.bool hb8) (mN0 (oPkT (congrArg LV.bool hb9) (v := (.bool _)) rfl ⟨rfl, ?_⟩))
        refine mN0 (oPkF (congrArg LV.bool hb8) (v := (.bool _)) rfl ⟨rfl, ?_⟩)
        refine mN0 (oA (v := (.bool _)) rfl ⟨rfl, ?_⟩)
        obtain rfl := Option.some.inj hv
        exact m0 (Wk.eq rfl rfl rfl rfl)
       ·replace hb9 := bF hb9
        replace hv := iteF hv hb9
        refine mF rfl rfl hb9 ?_
        refine mF rfl rfl hb9 ?_
        refine mF rfl rfl hb9 ?_
        refine mT rfl (congrArg LV.bool hb8) (mN0 (oPkF (congrArg LV.bool hb9) (v := (.bool _)) rfl ⟨rfl, ?_⟩))
        refine mN0 (oPkF (congrArg LV.bool hb8) (v := (.bool _)) rfl ⟨rfl, ?_⟩)
        refine mN0 (oA (v := (.bool _)) rfl ⟨rfl, ?_⟩)
        obtain rfl := Option.some.inj hv
        exact m0 (Wk.eq rfl rfl rfl rfl)
     ·replace hb7 := bF hb7
      replace hv := iteF hv hb7
      refine mF rfl rfl hb7 ?_
      refine mF rfl rfl hb7 ?_
      refine mF rfl rfl hb7 ?_
      refine mF rfl rfl hb7 ?_
      refine mF rfl rfl hb7 ?_
      refine mT rfl (congrArg LV.bool hb6) (mN0 (oPkF (congrArg LV.bool hb7) (v := (.bool _)) rfl ⟨rfl, ?_⟩))
      refine mN0 (oPkF (congrArg LV.bool hb6) (v := (.bool _)) rfl ⟨rfl, ?_⟩)
      refine mN0 (oM (v := (.bool _)) rfl ⟨rfl, ?_⟩)
      refine mT rfl rfl (mN0 (oFaS tf34_1 tk3 ts3 rfl rfl rfl ⟨rfl, ?_⟩))
      refine mT rfl rfl (mN0 (oLd rfl tk3 ta3 ⟨rfl, ?_⟩))
      refine mT rfl rfl (mN0 (oEq rfl rfl ⟨rfl, ?_⟩))
      refine mT rfl rfl (mN0 (oM (v := (.bool _)) rfl ⟨rfl, ?_⟩))
      by_cases hb10 : (c2.Kind == 3) = true
      ·replace hv := iteT hv hb10
       refine mT rfl (congrArg LV.bool hb10) (mN0 (oFaS tf34_4 tk3 ts3 rfl rfl rfl ⟨rfl, ?_⟩))
       refine mT rfl (congrArg LV.bool hb10) (mN0 (oLd rfl tk3 ta3 ⟨rfl, ?_⟩))
       refine mT rfl (congrArg LV.bool hb10) (mN0 (oNe rfl rfl ⟨rfl, ?_⟩))
       refine mT rfl rfl (mN0 (oPkT (congrArg LV.bool hb10) (v := (.bool _)) rfl ⟨rfl, ?_⟩))
       refine mN0 (oPkF rfl (v := (.bool _)) rfl ⟨rfl, ?_⟩)
       refine mN0 (oA (v := (.bool _)) rfl ⟨rfl, ?_⟩)
       obtain rfl := Option.some.inj hv
       exact m0 (Wk.eq rfl rfl rfl rfl)
      ·replace hb10 := bF hb10
       replace hv := iteF hv hb10
       refine mF rfl rfl hb10 ?_
       refine mF rfl rfl hb10 ?_
       refine mF rfl rfl hb10 ?_
       refine mT rfl rfl (mN0 (oPkF (congrArg LV.bool hb10) (v := (.bool _)) rfl ⟨rfl, ?_⟩))
       refine mN0 (oPkF rfl (v := (.bool _)) rfl ⟨rfl, ?_⟩)
       refine mN0 (oA (v := (.bool _)) rfl ⟨rfl, ?_⟩)
       obtain rfl := Option.some.inj hv
       exact m0 (Wk.eq rfl rfl rfl rfl)
  clear hv
  refine LH.ret ?_
  obtain rfl := Option.some.inj h
  exact retE (congrArg Array.toList Try.results81) (lrT rfl (lr0 ⟨memN mN, rfl, prK rfl, Sub.rfl⟩))

theorem custody_oldConditions_3_ok {F : Nat} {c0 : GBagEvent} {c1 : List GBag} {c2 : Int} {r : Bool} (h : custody_oldConditions_3 F c0 c1 c2 = some r) : LCall Try.prog 82 [.sptr [.I c0.Stamp.Time, .I c0.Stamp.Source, .I c0.Stamp.Seq, .I c0.Kind, .I c0.Bag, .I c0.Seal, .I c0.From, .I c0.To, .L c0.Candidates], .sptr [.lst 6 (List.map GBag.lv c1)], .sptr [.I c2]] (Mem.of []) (.bool r) (Mem.of []) := by
  unfold custody_oldConditions_3 at h
  refine bodyT Try.func82 rfl (by rw [Try.ntmps82]; exact Nat.le_of_ble_eq_true rfl) ?_
  refine LH.wk (Wk.eq (el := [(0, .sptr [.I c0.Stamp.Time, .I c0.Stamp.Source, .I c0.Stamp.Seq, .I c0.Kind, .I c0.Bag, .I c0.Seal, .I c0.From, .I c0.To, .L c0.Candidates]), (1, .sptr [.lst 6 (List.map GBag.lv c1)]), (2, .sptr [.I c2])]) (ml := []) rfl rfl rfl rfl) ?_
  refine LH.seqT [(0, .sptr [.I c0.Stamp.Time, .I c0.Stamp.Source, .I c0.Stamp.Seq, .I c0.Kind, .I c0.Bag, .I c0.Seal, .I c0.From, .I c0.To, .L c0.Candidates]), (1, .sptr [.lst 6 (List.map GBag.lv c1)]), (2, .sptr [.I c2])] [] rfl ?_ ?_
  ·refine sAb rfl ?_
   exact s0 (Wk.eq rfl rfl rfl rfl)
  refine LH.seq ?_
  refine LH.seqT [(0, .sptr [.I c0.Stamp.Time, .I c0.Stamp.Source, .I c0.Stamp.Seq, .I c0.Kind, .I c0.Bag, .I c0.Seal, .I c0.From, .I c0.To, .L c0.Candidates]), (1, .sptr [.lst 6 (List.map GBag.lv c1)]), (2, .sptr [.I c2]), (7, .bool (c0.Kind == 4))] [] rfl ?_ ?_
  ·refine sN (oFaS tf34_1 tk3 ts3 rfl rfl rfl ?_)
   refine sN (oLd rfl tk3 ta3 ?_)
   refine sN (oEq rfl rfl ?_)
   exact s0 (Wk.eq rfl rfl rfl rfl)
  refine LH.cond (t := (c0.Kind == 4)) rfl (fun hc1 => ?_) (fun hc1 => ?_)
  ·replace h := iteT h hc1
   obtain ⟨r2, hr2, h⟩ := bindS h
   refine LH.seqT [(3, .bool r2)] [] rfl ?_ ?_
   ·refine sN (oLd rfl tk39 ta39 ?_)
    refine sN (oFaS tf34_3 tk3 ts3 rfl rfl rfl ?_)
    refine sN (oLd rfl tk3 ta3 ?_)
    refine sN (oCP (args := [.lst 6 (List.map GBag.lv c1), .I c0.Seal, .fn 43 []]) rfl isF77 rfl (sbR (sbR (sbR sbN))) (custody_inBags_ok (p2_f := 43) (p2_c := []) isF43 rfl (fun _ _ h => custody_sealsOf_ok h) hr2) rfl ?_)
    refine sAb rfl ?_
    exact s0 (Wk.eq rfl rfl rfl rfl)
   refine LH.ret ?_
   refine thenR ?_
   obtain rfl := Option.some.inj h
   exact retE (congrArg Array.toList Try.results82) (lrT rfl (lr0 ⟨memN mN, rfl, prK rfl, Sub.rfl⟩))
  replace h := iteF h hc1
  refine LH.skip ?_
  refine thenN ?_
  obtain ⟨x3, hx3, h⟩ := bindS h
  refine LH.seqT [(0, .sptr [.I c0.Stamp.Time, .I c0.Stamp.Source, .I c0.Stamp.Seq, .I c0.Kind, .I c0.Bag, .I c0.Seal, .I c0.From, .I c0.To, .L c0.Candidates]), (4, .L x3.Seals)] [] rfl ?_ ?_
  ·refine sN (oLd rfl tk39 ta39 ?_)
   refine sN (oLd rfl tk3 ta3 ?_)
   refine sN (oIx (f := GBag.lv) te39 tk46 ts46 rfl rfl GBag.ok hx3 rfl ?_)
   refine sN (oFaS tf46_3 tk22 ts22 rfl rfl rfl ?_)
   refine sN (oLd rfl tk22 ta22 ?_)
   refine sAl rfl ?_
   exact s0 (Wk.eq rfl rfl rfl rfl)
  obtain ⟨x4, hx4, h⟩ := bindS h
  refine LH.seqJM mixed [] [0, 0, 0, 0, 0, 0, 0, 0, 0, 0] [(3, .bool (x4 != c0.Seal))] [] rfl rfl (by kernel_rfl) ?_ ?_
  ·refine mN0 (oM (v := (.lst _ _)) rfl ⟨rfl, ?_⟩)
   refine mN0 (oM (v := (.lst _ _)) rfl ⟨rfl, ?_⟩)
   refine mN0 (oLnL (f := LV.I) te22 rfl ⟨rfl, ?_⟩)
   refine mN0 (oSub rfl rfl ⟨rfl, ?_⟩)
   refine mN0 (oIx (f := LV.I) te22 tk3 ts3 rfl rfl okI hx4 rfl ⟨rfl, ?_⟩)
   refine mN0 (oLd rfl tk3 ta3 ⟨rfl, ?_⟩)
   refine mN0 (oFaS tf34_3 tk3 ts3 rfl rfl rfl ⟨rfl, ?_⟩)
   refine mN0 (oLd rfl tk3 ta3 ⟨rfl, ?_⟩)
   refine mN0 (oNe rfl rfl ⟨rfl, ?_⟩)
   refine mN0 (oA (v := (.bool _)) rfl ⟨rfl, ?_⟩)
   exact m0 (Wk.eq rfl rfl rfl rfl)
  refine LH.ret ?_
  obtain rfl := Option.some.inj h
  exact retE (congrArg Array.toList Try.results82) (lrT rfl (lr0 ⟨memN mN, rfl, prK rfl, Sub.rfl⟩))

theorem custody_oldConditions_4_ok {c0 : GBagEvent} {c1 : List GBag} {c2 : Int} {r : Bool} (h : custody_oldConditions_4 c0 c1 c2 = some r) : LCall Try.prog 83 [.sptr [.I c0.Stamp.Time, .I c0.Stamp.Source, .I c0.Stamp.Seq, .I c0.Kind, .I c0.Bag, .I c0.Seal, .I c0.From, .I c0.To, .L c0.Candidates], .sptr [.lst 6 (List.map GBag.lv c1)], .sptr [.I c2]] (Mem.of []) (.bool r) (Mem.of []) := by
  unfold custody_oldConditions_4 at h
  refine bodyT Try.func83 rfl (by rw [Try.ntmps83]; exact Nat.le_of_ble_eq_true rfl) ?_
  refine LH.wk (Wk.eq (el := [(0, .sptr [.I c0.Stamp.Time, .I c0.Stamp.Source, .I c0.Stamp.Seq, .I c0.Kind, .I c0.Bag, .I c0.Seal, .I c0.From, .I c0.To, .L c0.Candidates]), (1, .sptr [.lst 6 (List.map GBag.lv c1)]), (2, .sptr [.I c2])]) (ml := []) rfl rfl rfl rfl) ?_
  refine LH.seqT [(0, .sptr [.I c0.Stamp.Time, .I c0.Stamp.Source, .I c0.Stamp.Seq, .I c0.Kind, .I c0.Bag, .I c0.Seal, .I c0.From, .I c0.To, .L c0.Candidates]), (1, .sptr [.lst 6 (List.map GBag.lv c1)]), (2, .sptr [.I c2])] [] rfl ?_ ?_
  ·refine sAb rfl ?_
   exact s0 (Wk.eq rfl rfl rfl rfl)
  obtain ⟨w2, hv, h⟩ := bindS h
  refine LH.seqT [(3, .bool w2)] [] rfl ?_ ?_
  ·refine sN (oFaS tf34_1 tk3 ts3 rfl rfl rfl ?_)
   refine sN (oLd rfl tk3 ta3 ?_)
   refine sN (oEq rfl rfl ?_)
   refine sMb rfl ?_
   by_cases hb3 : (c0.Kind == 4) = true
   ·replace hv := iteT hv hb3
    refine sT rfl (congrArg LV.bool hb3) (oLd rfl tk39 ta39 ?_)
    refine sT rfl (congrArg LV.bool hb3) (oLd rfl tk3 ta3 ?_)
    obtain ⟨x4, hx4, hv⟩ := bindS hv
    refine sT rfl (congrArg LV.bool hb3) (oIx (f := GBag.lv) te39 tk46 ts46 rfl rfl GBag.ok hx4 rfl ?_)
    refine sT rfl (congrArg LV.bool hb3) (oFaS tf46_3 tk22 ts22 rfl rfl rfl ?_)
    refine sT rfl (congrArg LV.bool hb3) (oLd rfl tk22 ta22 ?_)
    refine sT rfl (congrArg LV.bool hb3) (oLnL (f := LV.I) te22 rfl ?_)
    refine sT rfl (congrArg LV.bool hb3) (oGe rfl rfl ?_)
    refine sN (oPkT (congrArg LV.bool hb3) (v := (.bool _)) rfl ?_)
    refine sAb rfl ?_
    obtain rfl := Option.some.inj hv
    exact s0 (Wk.eq rfl rfl rfl rfl)
   ·replace hb3 := bF hb3
    replace hv := iteF hv hb3
    refine sF rfl rfl hb3 ?_
    refine sF rfl rfl hb3 ?_
    refine sF rfl rfl hb3 ?_
    refine sF rfl rfl hb3 ?_
    refine sF rfl rfl hb3 ?_
    refine sF rfl rfl hb3 ?_
    refine sF rfl rfl hb3 ?_
    refine sN (oPkF (congrArg LV.bool hb3) (v := (.bool _)) rfl ?_)
    refine sAb rfl ?_
    obtain rfl := Option.some.inj hv
    exact s0 (Wk.eq rfl rfl rfl rfl)
  clear hv
  refine LH.ret ?_
  obtain rfl := Option.some.inj h
  exact retE (congrArg Array.toList Try.results83) (lrT rfl (lr0 ⟨memN mN, rfl, prK rfl, Sub.rfl⟩))

theorem custody_oldConditions_ok {F : Nat} {p0 : List GBag} {p1 : GBagEvent} {p2 : Int} {p3 : Bool} {r : List custody_condition} (h : custody_oldConditions F p0 p1 p2 p3 = some r) : LCall Try.prog 57 [.lst 6 (List.map GBag.lv p0), .agg [.I p1.Stamp.Time, .I p1.Stamp.Source, .I p1.Stamp.Seq, .I p1.Kind, .I p1.Bag, .I p1.Seal, .I p1.From, .I p1.To, .L p1.Candidates], .I p2, .bool p3] (Mem.of []) (.lst 2 (List.map custody_condition.lv r)) (Mem.of []) := by
  unfold custody_oldConditions at h
  refine bodyT Try.func57 rfl (by rw [Try.ntmps57]; exact Nat.le_of_ble_eq_true rfl) ?_
  refine LH.wk (Wk.eq (el := [(0, .lst 6 (List.map GBag.lv p0)), (1, .agg [.I p1.Stamp.Time, .I p1.Stamp.Source, .I p1.Stamp.Seq, .I p1.Kind, .I p1.Bag, .I p1.Seal, .I p1.From, .I p1.To, .L p1.Candidates]), (2, .I p2), (3, .bool p3)]) (ml := []) rfl rfl rfl rfl) ?_
  refine LH.seqT [(4, .sptr [.lst 6 (List.map GBag.lv p0)]), (5, .sptr [.I p1.Stamp.Time, .I p1.Stamp.Source, .I p1.Stamp.Seq, .I p1.Kind, .I p1.Bag, .I p1.Seal, .I p1.From, .I p1.To, .L p1.Candidates]), (6, .sptr [.I p2]), (7, .sptr [.bool p3])] [] rfl ?_ ?_
  ·refine sB (oBxR rfl rfl rfl rfl ?_)
   refine sB (oBxR rfl rfl rfl rfl ?_)
   refine sB (oBxR rfl rfl rfl rfl ?_)
   refine sB (oBxR rfl rfl rfl rfl ?_)
   refine sAn rfl ?_
   exact s0 (Wk.eq rfl rfl rfl rfl)
  refine LH.seqT [(8, .lst 2 (List.map custody_condition.lv ([(custody_condition.mk 4 (FnV.mk 80 [.sptr [.bool p3]] (custody_oldConditions_1 p3) rfl)), (custody_condition.mk 8 (FnV.mk 81 [.sptr [.lst 6 (List.map GBag.lv p0)], .sptr [.I p2], .sptr [.I p1.Stamp.Time, .I p1.Stamp.Source, .I p1.Stamp.Seq, .I p1.Kind, .I p1.Bag, .I p1.Seal, .I p1.From, .I p1.To, .L p1.Candidates]] (custody_oldConditions_2 p0 p2 p1) rfl)), (custody_condition.mk 9 (FnV.mk 82 [.sptr [.I p1.Stamp.Time, .I p1.Stamp.Source, .I p1.Stamp.Seq, .I p1.Kind, .I p1.Bag, .I p1.Seal, .I p1.From, .I p1.To, .L p1.Candidates], .sptr [.lst 6 (List.map GBag.lv p0)], .sptr [.I p2]] (custody_oldConditions_3 F p1 p0 p2) rfl)), (custody_condition.mk 3 (FnV.mk 83 [.sptr [.I p1.Stamp.Time, .I p1.Stamp.Source, .I p1.Stamp.Seq, .I p1.Kind, .I p1.Bag, .I p1.Seal, .I p1.From, .I p1.To, .L p1.Candidates], .sptr [.lst 6 (List.map GBag.lv p0)], .sptr [.I p2]] (custody_oldConditions_4 p1 p0 p2) rfl))])))] [] rfl ?_ ?_
  ·refine sN (oMF (vs := [.sptr [.bool p3]]) rfl ?_)
   refine sN (oBd (vs := [(0, .I 4), (1, .fn 80 [.sptr [.bool p3]])]) tu87 tz87 rfl (lf tf87_0 ts27 tk27 rfl rfl rfl (lf tf87_1 ts36 tk36 rfl rfl rfl lf0)) ?_)
   refine sN (oMF (vs := [.sptr [.lst 6 (List.map GBag.lv p0)], .sptr [.I p2], .sptr [.I p1.Stamp.Time, .I p1.Stamp.Source, .I p1.Stamp.Seq, .I p1.Kind, .I p1.Bag, .I p1.Seal, .I p1.From, .I p1.To, .L p1.Candidates]]) rfl ?_)
   refine sN (oBd (vs := [(0, .I 8), (1, .fn 81 [.sptr [.lst 6 (List.map GBag.lv p0)], .sptr [.I p2], .sptr [.I p1.Stamp.Time, .I p1.Stamp.Source, .I p1.Stamp.Seq, .I p1.Kind, .I p1.Bag, .I p1.Seal, .I p1.From, .I p1.To, .L p1.Candidates]])]) tu87 tz87 rfl (lf tf87_0 ts27 tk27 rfl rfl rfl (lf tf87_1 ts36 tk36 rfl rfl rfl lf0)) ?_)
   refine sN (oMF (vs := [.sptr [.I p1.Stamp.Time, .I p1.Stamp.Source, .I p1.Stamp.Seq, .I p1.Kind, .I p1.Bag, .I p1.Seal, .I p1.From, .I p1.To, .L p1.Candidates], .sptr [.lst 6 (List.map GBag.lv p0)], .sptr [.I p2]]) rfl ?_)
   refine sN (oBd (vs := [(0, .I 9), (1, .fn 82 [.sptr [.I p1.Stamp.Time, .I p1.Stamp.Source, .I p1.Stamp.Seq, .I p1.Kind, .I p1.Bag, .I p1.Seal, .I p1.From, .I p1.To, .L p1.Candidates], .sptr [.lst 6 (List.map GBag.lv p0)], .sptr [.I p2]])]) tu87 tz87 rfl (lf tf87_0 ts27 tk27 rfl rfl rfl (lf tf87_1 ts36 tk36 rfl rfl rfl lf0)) ?_)
   refine sN (oMF (vs := [.sptr [.I p1.Stamp.Time, .I p1.Stamp.Source, .I p1.Stamp.Seq, .I p1.Kind, .I p1.Bag, .I p1.Seal, .I p1.From, .I p1.To, .L p1.Candidates], .sptr [.lst 6 (List.map GBag.lv p0)], .sptr [.I p2]]) rfl ?_)
   refine sN (oBd (vs := [(0, .I 3), (1, .fn 83 [.sptr [.I p1.Stamp.Time, .I p1.Stamp.Source, .I p1.Stamp.Seq, .I p1.Kind, .I p1.Bag, .I p1.Seal, .I p1.From, .I p1.To, .L p1.Candidates], .sptr [.lst 6 (List.map GBag.lv p0)], .sptr [.I p2]])]) tu87 tz87 rfl (lf tf87_0 ts27 tk27 rfl rfl rfl (lf tf87_1 ts36 tk36 rfl rfl rfl lf0)) ?_)
   refine sN (oBS (f := custody_condition.lv) (ys := [(custody_condition.mk 4 (FnV.mk 80 [.sptr [.bool p3]] (custody_oldConditions_1 p3) rfl)), (custody_condition.mk 8 (FnV.mk 81 [.sptr [.lst 6 (List.map GBag.lv p0)], .sptr [.I p2], .sptr [.I p1.Stamp.Time, .I p1.Stamp.Source, .I p1.Stamp.Seq, .I p1.Kind, .I p1.Bag, .I p1.Seal, .I p1.From, .I p1.To, .L p1.Candidates]] (custody_oldConditions_2 p0 p2 p1) rfl)), (custody_condition.mk 9 (FnV.mk 82 [.sptr [.I p1.Stamp.Time, .I p1.Stamp.Source, .I p1.Stamp.Seq, .I p1.Kind, .I p1.Bag, .I p1.Seal, .I p1.From, .I p1.To, .L p1.Candidates], .sptr [.lst 6 (List.map GBag.lv p0)], .sptr [.I p2]] (custody_oldConditions_3 F p1 p0 p2) rfl)), (custody_condition.mk 3 (FnV.mk 83 [.sptr [.I p1.Stamp.Time, .I p1.Stamp.Source, .I p1.Stamp.Seq, .I p1.Kind, .I p1.Bag, .I p1.Seal, .I p1.From, .I p1.To, .L p1.Candidates], .sptr [.lst 6 (List.map GBag.lv p0)], .sptr [.I p2]] (custody_oldConditions_4 p1 p0 p2) rfl))]) te88 tr87 ts87 rfl rfl rfl custody_condition.ok ?_)
   refine sAl rfl ?_
   exact s0 (Wk.eq rfl rfl rfl rfl)
  refine LH.ret ?_
  obtain rfl := Option.some.inj h
  exact retE (congrArg Array.toList Try.results57) (lrT rfl (lr0 ⟨memN mN, rfl, prK rfl, Sub.rfl⟩))
theorem custody_oldConditions_fn {F : Nat} {p0 : List GBag} {p1 : GBagEvent} {p2 : Int} {p3 : Bool} {r : List custody_condition} (h : custody_oldConditions F p0 p1 p2 p3 = some r) : ∀ x ∈ r, FnOk Try.prog x.holds := by
  unfold custody_oldConditions at h
  obtain rfl := Option.some.inj h
  exact (fnC ⟨isF80, fun _ h => custody_oldConditions_1_ok h⟩ (fnC ⟨isF81, fun _ h => custody_oldConditions_2_ok h⟩ (fnC ⟨isF82, fun _ h => custody_oldConditions_3_ok h⟩ (fnC ⟨isF83, fun _ h => custody_oldConditions_4_ok h⟩ fnN))))

theorem custody_first_ok {F : Nat} {p0 : List custody_condition} {r : Int} (p0_h : ∀ x ∈ p0, FnOk Try.prog x.holds) (h : custody_first F p0 = some r) : LCall Try.prog 58 [.lst 2 (List.map custody_condition.lv p0)] (Mem.of []) (.I r) (Mem.of []) := by
  unfold custody_first at h
  refine bodyT Try.func58 rfl (by rw [Try.ntmps58]; exact Nat.le_of_ble_eq_true rfl) ?_
  refine LH.wk (Wk.to (el := [(0, .lst 2 (List.map custody_condition.lv p0))]) (ml := []) (eQ ⟨rfl, trivial⟩) mN (by simp [keptRefs, LV.refs, LV.refsL, LV.cells, lev, Env.args, Env.of, Env.put, Env.drop, FnV.refs]) (prK rfl)) ?_
  refine LH.seqT [(0, .lst 2 (List.map custody_condition.lv p0))] [] rfl ?_ ?_
  ·refine sAi rfl ?_
   exact s0 (Wk.to (eQ ⟨rfl, trivial⟩) mN (by simp [keptRefs, LV.refs, LV.refsL, LV.cells, lev, Env.args, Env.of, Env.put, Env.drop, FnV.refs]) (prK rfl))
  refine LH.seq ?_
  refine LH.seqT [(5, .lst 2 (List.map custody_condition.lv p0)), (6, .I (p0.length : Int)), (7, .I 0)] [] rfl ?_ ?_
  ·refine sMl rfl ?_
   refine sN (oLnL (f := custody_condition.lv) te88 rfl ?_)
   refine sMi rfl ?_
   exact s0 (Wk.to (eQ ⟨rfl, rfl, rfl, trivial⟩) mN (by simp [keptRefs, LV.refs, LV.refsL, LV.cells, lev, Env.args, Env.of, Env.put, Env.drop, FnV.refs]) (prK rfl))
  refine LH.block ?_
  refine LH.loop (fun n e m => ∃ (n1 : Int), custody_first_L1 p0 n n1 = some r ∧ e = Env.of [(5, .lst 2 (List.map custody_condition.lv p0)), (6, .I (p0.length : Int)), (7, .I n1)] ∧ m = Mem.of []) F ⟨0, h, rfl, rfl⟩ ?_
  clear h
  rintro n e m ⟨n1, h, rfl, rfl⟩
  rcases n with _ | n
  · cases (show Option.none = some _ from h)
  obtain ⟨rec1, hrec1⟩ : ∃ f, f = custody_first_L1 p0 n := ⟨_, rfl⟩
  replace h : custody_first_L1_B p0 rec1 n1 = some r := hrec1 ▸ h
  unfold custody_first_L1_B at h
  refine LH.seqT [(5, .lst 2 (List.map custody_condition.lv p0)), (6, .I (p0.length : Int)), (7, .I n1), (8, .bool (decide (n1 < (p0.length : Int))))] [] rfl ?_ ?_
  ·refine sN (oLt rfl rfl ?_)
   exact s0 (Wk.to (eQ ⟨rfl, rfl, rfl, rfl, trivial⟩) mN (by simp [keptRefs, LV.refs, LV.refsL, LV.cells, lev, Env.args, Env.of, Env.put, Env.drop, FnV.refs]) (prK rfl))
  refine LH.seq ?_
  refine LH.cond (t := (decide (n1 < (p0.length : Int)))) rfl (fun hc2 => ?_) (fun hc2 => ?_)
  ·replace h := iteT h hc2
   refine LH.skip ?_
   refine thenN ?_
   refine LH.wk (Wk.to (el := [(5, .lst 2 (List.map custody_condition.lv p0)), (6, .I (p0.length : Int)), (7, .I n1)]) (ml := []) (eQ ⟨rfl, rfl, rfl, trivial⟩) mN (by simp [keptRefs, LV.refs, LV.refsL, LV.cells, lev, Env.args, Env.of, Env.put, Env.drop, FnV.refs]) (prK rfl)) ?_
   refine LH.seq ?_
   refine LH.block ?_
   obtain ⟨x3, hx3, h⟩ := bindS h
   refine LH.seqT [(4, .ptr 104 0), (5, .lst 2 (List.map custody_condition.lv p0)), (6, .I (p0.length : Int)), (7, .I n1)] [(104, .box [.I x3.code, .fn x3.holds.f x3.holds.c])] rfl ?_ ?_
   ·refine sN (oIx (f := custody_condition.lv) te88 tk87 ts87 rfl rfl custody_condition.ok hx3 rfl ?_)
    refine sN (oLdA rfl tk87 ta87 ts87 rfl rfl ?_)
    refine sN (oAl (id := 104) rfl tz87 rfl rfl ?_)
    refine s_ (oSt rfl rfl rfl tk87 ts87 rfl rfl rfl ?_)
    exact s0 (Wk.to (eQ ⟨rfl, rfl, rfl, rfl, trivial⟩) ⟨rfl, trivial⟩ (by simp [keptRefs, LV.refs, LV.refsL, LV.cells, lev, Env.args, Env.of, Env.put, Env.drop, FnV.refs]) (prK rfl))
   obtain ⟨r4, hr4, h⟩ := bindS h
   refine LH.seqT [(4, .ptr 104 0), (5, .lst 2 (List.map custody_condition.lv p0)), (6, .I (p0.length : Int)), (7, .I n1), (13, .bool r4)] [(104, .box [.I x3.code, .fn x3.holds.f x3.holds.c])] rfl ?_ ?_
   ·refine sN (oFa tf87_1 tk36 ts36 rfl rfl ?_)
    refine sN (oLdP rfl rfl rfl rfl tk36 ta36 ?_)
    refine sN (oCP (args := x3.holds.c) (args' := x3.holds.c) rfl (p0_h _ (idxMem hx3)).1 rfl SubL.rfl ((p0_h _ (idxMem hx3)).2 _ hr4) x3.holds.hc ?_)
    exact s0 (Wk.to (eQ ⟨rfl, rfl, rfl, rfl, rfl, trivial⟩) ⟨rfl, trivial⟩ (by simp [keptRefs, LV.refs, LV.refsL, LV.cells, lev, Env.args, Env.of, Env.put, Env.drop, FnV.refs]) (prK rfl))
   refine LH.cond (t := r4) rfl (fun hc5 => ?_) (fun hc5 => ?_)
   ·replace h := iteT h hc5
    refine LH.seqT [(2, .I x3.code)] [] rfl ?_ ?_
    ·refine sN (oFa tf87_0 tk27 ts27 rfl rfl ?_)
     refine sN (oLdP rfl rfl rfl rfl tk27 ta27 ?_)
     refine sAi rfl ?_
     exact s0 (Wk.to (eQ ⟨rfl, trivial⟩) mN (by simp [keptRefs, LV.refs, LV.refsL, LV.cells, lev, Env.args, Env.of, Env.put, Env.drop, FnV.refs]) (prK rfl))
    refine LH.ret ?_
    refine blockR ?_
    refine thenR ?_
    refine roundR ?_
    refine blockR ?_
    refine thenR ?_
    obtain rfl := Option.some.inj h
    exact retE (congrArg Array.toList Try.results58) (lrT rfl (lr0 ⟨memN mN, rfl, prK rfl, Sub.rfl⟩))
   replace h := iteF h hc5
   refine LH.skip ?_
   refine blockN ?_
   refine thenN ?_
   refine LH.loneT [(5, .lst 2 (List.map custody_condition.lv p0)), (6, .I (p0.length : Int)), (7, .I (i64 (n1 + 1)))] [] rfl ?_ ?_
   ·refine sN (oAdd rfl rfl ?_)
    refine sMi rfl ?_
    exact s0 (Wk.to (eQ ⟨rfl, rfl, rfl, trivial⟩) mN (by simp [keptRefs, LV.refs, LV.refsL, LV.cells, lev, Env.args, Env.of, Env.put, Env.drop, FnV.refs]) (prK rfl))
   exact roundI ⟨(i64 (n1 + 1)), hrec1 ▸ h, rfl, rfl⟩ (Wk.to (eQ ⟨rfl, rfl, rfl, trivial⟩) mN (by simp [keptRefs, LV.refs, LV.refsL, LV.cells, lev, Env.args, Env.of, Env.put, Env.drop, FnV.refs]) (prK rfl))
  replace h := iteF h hc2
  refine LH.exit ?_
  refine thenX ?_
  refine roundX ?_
  refine blockH ?_
  refine thenN ?_
  refine LH.seqT [(2, .I 0)] [] rfl ?_ ?_
  ·refine sAi rfl ?_
   exact s0 (Wk.to (eQ ⟨rfl, trivial⟩) mN (by simp [keptRefs, LV.refs, LV.refsL, LV.cells, lev, Env.args, Env.of, Env.put, Env.drop, FnV.refs]) (prK rfl))
  refine LH.ret ?_
  obtain rfl := Option.some.inj h
  exact retE (congrArg Array.toList Try.results58) (lrT rfl (lr0 ⟨memN mN, rfl, prK rfl, Sub.rfl⟩))

theorem custody_cloneBag_ok {p0 : GBag} {r : GBag} (h : custody_cloneBag p0 = some r) : LCall Try.prog 84 [.agg [.I p0.Bag, .I p0.Holder, .bool p0.Open, .L p0.Seals, .L p0.Packed, .L p0.Found]] (Mem.of []) (.agg [.I r.Bag, .I r.Holder, .bool r.Open, .arr 105 (List.length r.Seals), .L r.Packed, .L r.Found]) (Mem.of [(105, .arr 3 1 (List.map LV.I r.Seals))]) := by
  unfold custody_cloneBag at h
  refine bodyT Try.func84 rfl (by rw [Try.ntmps84]; exact Nat.le_of_ble_eq_true rfl) ?_
  refine LH.wk (Wk.eq (el := [(0, .agg [.I p0.Bag, .I p0.Holder, .bool p0.Open, .L p0.Seals, .L p0.Packed, .L p0.Found])]) (ml := []) rfl rfl rfl rfl) ?_
  refine LH.seqT [(1, .ptr 101 0), (2, .ptr 102 0)] [(101, .box [.I p0.Bag, .I p0.Holder, .bool p0.Open, .L p0.Seals, .L p0.Packed, .L p0.Found]), (102, .box [.I 0, .I 0, .bool false, .nil, .nil, .nil])] rfl ?_ ?_
  ·refine sN (oBx (id := 101) rfl rfl rfl rfl rfl rfl ?_)
   refine sN (oAl (id := 102) rfl tz46 rfl rfl ?_)
   exact s0 (Wk.eq rfl rfl rfl rfl)
  obtain ⟨v1, hv1, h⟩ := bindS h
  refine LH.seqT [(1, .ptr 101 0), (2, .ptr 102 0)] [(101, .box [.I p0.Bag, .I p0.Holder, .bool p0.Open, .arr 105 (List.length v1), .L p0.Packed, .L p0.Found]), (102, .box [.I 0, .I 0, .bool false, .nil, .nil, .nil]), (105, .arr 3 1 (List.map LV.I v1))] rfl ?_ ?_
  ·refine sN (oFa tf46_3 tk22 ts22 rfl rfl ?_)
   refine sN (oLdP rfl rfl rfl rfl tk22 ta22 ?_)
   refine sN (oCM (args := [.L p0.Seals]) (ml := []) (ml' := [(105, .arr 3 1 (List.map LV.I v1))]) rfl isF34 rfl (sbR sbN) (clone_ok (g := LV.I) cloneW34 rfl 105 hv1) mN (newF rfl newN) rfl ?_)
   refine sN (oFa tf46_3 tk22 ts22 rfl rfl ?_)
   refine s_ (oSt rfl rfl rfl tk22 ts22 rfl rfl rfl ?_)
   exact s0 (Wk.eq rfl rfl rfl rfl)
  obtain ⟨v2, hv2, h⟩ := bindS h
  refine LH.seqT [(1, .ptr 101 0), (2, .ptr 102 0)] [(101, .box [.I p0.Bag, .I p0.Holder, .bool p0.Open, .arr 105 (List.length v1), .L v2, .L p0.Found]), (102, .box [.I 0, .I 0, .bool false, .nil, .nil, .nil]), (105, .arr 3 1 (List.map LV.I v1))] rfl ?_ ?_
  ·refine sN (oFa tf46_4 tk22 ts22 rfl rfl ?_)
   refine sN (oLdP rfl rfl rfl rfl tk22 ta22 ?_)
   refine sN (oCP (args := [.L p0.Packed]) rfl isF34 rfl (sbR sbN) (LCall.frz (clone_ok (g := LV.I) cloneW34 rfl 109 hv2) rfl) rfl ?_)
   refine sN (oFa tf46_4 tk22 ts22 rfl rfl ?_)
   refine s_ (oSt rfl rfl rfl tk22 ts22 rfl rfl rfl ?_)
   exact s0 (Wk.eq rfl rfl rfl rfl)
  obtain ⟨v3, hv3, h⟩ := bindS h
  refine LH.seqT [(1, .ptr 101 0), (2, .ptr 102 0)] [(101, .box [.I p0.Bag, .I p0.Holder, .bool p0.Open, .arr 105 (List.length v1), .L v2, .L v3]), (102, .box [.I 0, .I 0, .bool false, .nil, .nil, .nil]), (105, .arr 3 1 (List.map LV.I v1))] rfl ?_ ?_
  ·refine sN (oFa tf46_5 tk22 ts22 rfl rfl ?_)
   refine sN (oLdP rfl rfl rfl rfl tk22 ta22 ?_)
   refine sN (oCP (args := [.L p0.Found]) rfl isF34 rfl (sbR sbN) (LCall.frz (clone_ok (g := LV.I) cloneW34 rfl 113 hv3) rfl) rfl ?_)
   refine sN (oFa tf46_5 tk22 ts22 rfl rfl ?_)
   refine s_ (oSt rfl rfl rfl tk22 ts22 rfl rfl rfl ?_)
   exact s0 (Wk.eq rfl rfl rfl rfl)
  refine LH.seqT [(2, .ptr 102 0)] [(102, .box [.I p0.Bag, .I p0.Holder, .bool p0.Open, .arr 105 (List.length v1), .L v2, .L v3]), (105, .arr 3 1 (List.map LV.I v1))] rfl ?_ ?_
  ·refine sN (oLdPA rfl rfl rfl tk46 ta46 ts46 rfl rfl ?_)
   refine s_ (oSt rfl rfl rfl tk46 ts46 rfl rfl rfl ?_)
   exact s0 (Wk.eq rfl rfl rfl rfl)
  refine LH.ret ?_
  obtain rfl := Option.some.inj h
  exact retE (congrArg Array.toList Try.results84) (lrCA rfl rfl rfl tk46 ta46 ts46 rfl rfl (lr0 ⟨memN (mC rfl mN), rfl, prK rfl, Sub.rfl⟩))

theorem custody_cloneBags_ok {F : Nat} {p0 : List GBag} {r : List GBag} (h : custody_cloneBags F p0 = some r) : LCall Try.prog 59 [.lst 6 (List.map GBag.lv p0)] (Mem.of []) (.arr 8 (List.length r)) (Mem.of [(8, .nest 46 6 [(3, 3, 1)] (List.map GBag.lv r))]) := by
  unfold custody_cloneBags at h
  refine bodyT Try.func59 rfl (by rw [Try.ntmps59]; exact Nat.le_of_ble_eq_true rfl) ?_
  refine LH.wk (Wk.eq (el := [(0, .lst 6 (List.map GBag.lv p0))]) (ml := []) rfl rfl rfl rfl) ?_
  refine LH.seqT [(0, .lst 6 (List.map GBag.lv p0))] [] rfl ?_ ?_
  ·refine sAn rfl ?_
   exact s0 (Wk.eq rfl rfl rfl rfl)
  obtain ⟨v1, hv1, h⟩ := bindS h
  refine LH.seqT [(0, .lst 6 (List.map GBag.lv p0)), (3, .arr 8 (List.length v1))] [(8, .nest 46 6 [(3, 3, 1)] (List.map GBag.lv v1))] rfl ?_ ?_
  ·refine sMl rfl ?_
   refine sN (oLnL (f := GBag.lv) te39 rfl ?_)
   refine sX ((ok_mkG (f := GBag.lv) (z' := (GBag.mk 0 0 false [] [] [])) (v := v1) (id := 8) (os := [(3, 3, 1)]) te39 tz46 tr46 ts46 rfl rfl hv1 rfl rfl (snR rfl rfl (snR rfl rfl (snR rfl rfl (snO rfl (snL rfl (snL rfl snN)))))) rfl).ok) ?_
   refine sAa rfl ?_
   exact s0 (Wk.eq rfl rfl rfl rfl)
  refine LH.seq ?_
  refine LH.seqT [(3, .arr 8 (List.length v1)), (9, .lst 6 (List.map GBag.lv p0)), (10, .I (p0.length : Int)), (11, .I 0)] [(8, .nest 46 6 [(3, 3, 1)] (List.map GBag.lv v1))] rfl ?_ ?_
  ·refine sMl rfl ?_
   refine sN (oLnL (f := GBag.lv) te39 rfl ?_)
   refine sMi rfl ?_
   exact s0 (Wk.eq rfl rfl rfl rfl)
  refine LH.block ?_
  refine LH.loop (fun n e m => ∃ (n2 : Int) (l3 : List GBag), custody_cloneBags_L1 p0 n n2 l3 = some r ∧ e = Env.of [(3, .arr 8 (List.length l3)), (9, .lst 6 (List.map GBag.lv p0)), (10, .I (p0.length : Int)), (11, .I n2)] ∧ m = Mem.of [(8, .nest 46 6 [(3, 3, 1)] (List.map GBag.lv l3))]) F ⟨0, v1, h, rfl, rfl⟩ ?_
  clear h
  rintro n e m ⟨n2, l3, h, rfl, rfl⟩
  rcases n with _ | n
  · cases (show Option.none = some _ from h)
  obtain ⟨rec1, hrec1⟩ : ∃ f, f = custody_cloneBags_L1 p0 n := ⟨_, rfl⟩
  replace h : custody_cloneBags_L1_B p0 rec1 n2 l3 = some r := hrec1 ▸ h
  unfold custody_cloneBags_L1_B at h
  refine LH.seqT [(3, .arr 8 (List.length l3)), (9, .lst 6 (List.map GBag.lv p0)), (10, .I (p0.length : Int)), (11, .I n2), (12, .bool (decide (n2 < (p0.length : Int))))] [(8, .nest 46 6 [(3, 3, 1)] (List.map GBag.lv l3))] rfl ?_ ?_
  ·refine sN (oLt rfl rfl ?_)
   exact s0 (Wk.eq rfl rfl rfl rfl)
  refine LH.seq ?_
  refine LH.cond (t := (decide (n2 < (p0.length : Int)))) rfl (fun hc4 => ?_) (fun hc4 => ?_)
  ·replace h := iteT h hc4
   refine LH.skip ?_
   refine thenN ?_
   refine LH.wk (Wk.eq (el := [(3, .arr 8 (List.length l3)), (9, .lst 6 (List.map GBag.lv p0)), (10, .I (p0.length : Int)), (11, .I n2)]) (ml := [(8, .nest 46 6 [(3, 3, 1)] (List.map GBag.lv l3))]) rfl rfl rfl rfl) ?_
   refine LH.seq ?_
   refine LH.block ?_
   obtain ⟨x5, hx5, h⟩ := bindS h
   refine LH.seqT [(3, .arr 8 (List.length l3)), (4, .I n2), (5, .sptr [.I x5.Bag, .I x5.Holder, .bool x5.Open, .L x5.Seals, .L x5.Packed, .L x5.Found]), (9, .lst 6 (List.map GBag.lv p0)), (10, .I (p0.length : Int)), (11, .I n2)] [(8, .nest 46 6 [(3, 3, 1)] (List.map GBag.lv l3))] rfl ?_ ?_
   ·refine sMi rfl ?_
    refine sN (oIx (f := GBag.lv) te39 tk46 ts46 rfl rfl GBag.ok hx5 rfl ?_)
    refine sN (oLdA rfl tk46 ta46 ts46 rfl rfl ?_)
    refine sN (oAl (id := 105) rfl tz46 rfl rfl ?_)
    refine sAi rfl ?_
    refine s_ (oSt rfl rfl rfl tk46 ts46 rfl rfl rfl ?_)
    exact s0 ((Wk.trans (Wk.eq (el := [(3, .arr 8 (List.length l3)), (4, .I n2), (5, .ptr 105 0), (9, .lst 6 (List.map GBag.lv p0)), (10, .I (p0.length : Int)), (11, .I n2)]) (ml := [(8, .nest 46 6 [(3, 3, 1)] (List.map GBag.lv l3)), (105, .box [.I x5.Bag, .I x5.Holder, .bool x5.Open, .L x5.Seals, .L x5.Packed, .L x5.Found])]) rfl rfl rfl rfl) (Wk.trans (Wk.frzB 105 [.I x5.Bag, .I x5.Holder, .bool x5.Open, .L x5.Seals, .L x5.Packed, .L x5.Found] rfl rfl rfl (prN rfl)) (Wk.eq rfl rfl rfl rfl))))
   obtain ⟨r6, hr6, h⟩ := bindS h
   obtain ⟨x7, hx7, h⟩ := bindS h
   refine LH.loneT [(3, .arr 8 (List.length (l3.set (n2).toNat r6))), (9, .lst 6 (List.map GBag.lv p0)), (10, .I (p0.length : Int)), (11, .I n2)] [(8, .nest 46 6 [(3, 3, 1)] (List.map GBag.lv (l3.set (n2).toNat r6)))] rfl ?_ ?_
   ·refine sMa rfl ?_
    refine sMi rfl ?_
    refine sN (oLdA rfl tk46 ta46 ts46 rfl rfl ?_)
    refine sN (oCM (args := [.agg [.I x5.Bag, .I x5.Holder, .bool x5.Open, .L x5.Seals, .L x5.Packed, .L x5.Found]]) (ml := []) (ml' := [(105, .arr 3 1 (List.map LV.I r6.Seals))]) rfl isF84 rfl (sbR sbN) (custody_cloneBag_ok hr6) mN (newF rfl newN) rfl ?_)
    refine sX ((ok_ixF (f := GBag.lv) (xs := l3) te39 tk46 ts46 rfl rfl rfl rfl hx7).ok) ?_
    refine sX_ ((ok_stA (f := GBag.lv) (xs := l3) (z' := r6) rfl rfl rfl hx7 rfl tk46 ts46 rfl rfl (abP rfl rfl (abP rfl rfl (abP rfl rfl (abA (g := LV.I) (ys := r6.Seals) rfl rfl (abP rfl rfl (abP rfl rfl abN)))))) (by decide) (fnC (prN rfl) fnN) rfl).ok) ?_
    exact s0 (Wk.to (eC (congrArg (LV.arr 8) (by simp)) (eC rfl (eC rfl (eC rfl eN)))) ⟨rfl, trivial⟩ rfl (prK rfl))
   refine blockN ?_
   refine thenN ?_
   refine LH.loneT [(3, .arr 8 (List.length (l3.set (n2).toNat r6))), (9, .lst 6 (List.map GBag.lv p0)), (10, .I (p0.length : Int)), (11, .I (i64 (n2 + 1)))] [(8, .nest 46 6 [(3, 3, 1)] (List.map GBag.lv (l3.set (n2).toNat r6)))] rfl ?_ ?_
   ·refine sN (oAdd rfl rfl ?_)
    refine sMi rfl ?_
    exact s0 (Wk.eq rfl rfl rfl rfl)
   exact roundI ⟨(i64 (n2 + 1)), (l3.set (n2).toNat r6), hrec1 ▸ h, rfl, rfl⟩ (Wk.eq rfl rfl rfl rfl)
  replace h := iteF h hc4
  refine LH.exit ?_
  refine thenX ?_
  refine roundX ?_
  refine blockH ?_
  refine thenN ?_
  refine LH.seqT [(2, .arr 8 (List.length l3))] [(8, .nest 46 6 [(3, 3, 1)] (List.map GBag.lv l3))] rfl ?_ ?_
  ·refine sMa rfl ?_
   refine sAa rfl ?_
   exact s0 (Wk.eq rfl rfl rfl rfl)
  refine LH.ret ?_
  obtain rfl := Option.some.inj h
  exact retE (congrArg Array.toList Try.results59) (lrT rfl (lr0 ⟨memN (mC rfl mN), rfl, prK rfl, Sub.rfl⟩))

end Go.Proofs.Ytdjkbicmkbnjdaa
