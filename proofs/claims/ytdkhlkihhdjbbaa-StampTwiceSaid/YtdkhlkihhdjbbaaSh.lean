/- The plain functions: what the Go code computes, printed by program (gen.py). -/
import Derived.Test.YtdkhlkihhdjbbaaLn
set_option linter.unusedVariables false
set_option linter.unusedSimpArgs false
set_option maxRecDepth 100000
namespace Go.Sh
open Go.L
noncomputable section
structure GStamp where
  Time : Int
  Source : Int
  Seq : Int
  deriving DecidableEq, Inhabited
def GStamp.lv (x : GStamp) : LV := .agg [LV.int .i64 x.Time, LV.int .i64 x.Source, LV.int .i64 x.Seq]
theorem GStamp.ok : OkF 3 GStamp.lv := fun _ => ⟨rfl, rfl, rfl⟩
structure GTape where
  L : List Int
  At : Int
  deriving DecidableEq, Inhabited
def GTape.lv (x : GTape) : LV := .agg [(lvl 1 (LV.int .i64)) x.L, LV.int .i64 x.At]
theorem GTape.ok : OkF 2 GTape.lv := fun _ => ⟨rfl, rfl, rfl⟩
structure GIdentity where
  Source : Int
  Seq : Int
  deriving DecidableEq, Inhabited
def GIdentity.lv (x : GIdentity) : LV := .agg [LV.int .i64 x.Source, LV.int .i64 x.Seq]
theorem GIdentity.ok : OkF 2 GIdentity.lv := fun _ => ⟨rfl, rfl, rfl⟩
structure stamp_group where
  first : Int
  disputed : Bool
  deriving DecidableEq, Inhabited
def stamp_group.lv (x : stamp_group) : LV := .agg [LV.int .i64 x.first, LV.bool x.disputed]
theorem stamp_group.ok : OkF 2 stamp_group.lv := fun _ => ⟨rfl, rfl, rfl⟩
def stamp_Valid (p0 : GStamp) : Option Bool :=
  some ((decide (p0.Time ≥ 0)) && ((decide (p0.Time ≤ 1000000)) && ((decide (p0.Source ≥ 0)) && ((decide (p0.Source ≤ 99)) && ((decide (p0.Seq ≥ 0)) && (decide (p0.Seq ≤ 9999)))))))
def ref02_Valid (p0 : GStamp) : Option Bool :=
  some ((decide (p0.Time ≥ 0)) && ((decide (p0.Time ≤ 1000000)) && ((decide (p0.Source ≥ 0)) && ((decide (p0.Source ≤ 99)) && ((decide (p0.Seq ≥ 0)) && (decide (p0.Seq ≤ 9999)))))))
def cmp_isNaN_int (p0 : Int) : Option Bool :=
  some (p0 != p0)
def cmp_Compare_int (p0 : Int) (p1 : Int) : Option Int :=
  (cmp_isNaN_int p0).bind fun r1 =>
  (cmp_isNaN_int p1).bind fun r2 =>
  if r1 = true then
    if r2 = true then
      some 0
    else
    some (-1)
  else
  if r2 = true then
    some 1
  else
  if (decide (p0 < p1)) = true then
    some (-1)
  else
  if (decide (p0 > p1)) = true then
    some 1
  else
  some 0
def cmp_Or_int_L1_B (p0 : List Int) (rec1 : Int → Option Int) (n1 : Int) : Option Int :=
  if (decide (n1 < (p0.length : Int))) = true then
    (idx p0 n1).bind fun x3 =>
    if (x3 != 0) = true then
      some x3
    else
    rec1 (i64 (n1 + 1))
  else
  some 0
def cmp_Or_int_L1 (p0 : List Int) : Nat → Int → Option Int
  | 0 => fun _ => .none
  | n + 1 => cmp_Or_int_L1_B p0 (cmp_Or_int_L1 p0 n)
def cmp_Or_int (F : Nat) (p0 : List Int) : Option Int :=
  cmp_Or_int_L1 p0 F 0
def stamp_Compare (F : Nat) (p0 : GStamp) (p1 : GStamp) : Option Int :=
  (cmp_Compare_int p0.Time p1.Time).bind fun r1 =>
  (cmp_Compare_int p0.Source p1.Source).bind fun r2 =>
  (cmp_Compare_int p0.Seq p1.Seq).bind fun r3 =>
  (cmp_Or_int F [r1, r2, r3]).bind fun r4 =>
  some r4
def ref02_order (p0 : Int) (p1 : Int) : Option Int :=
  if (decide (p0 < p1)) = true then
    some (-1)
  else
  if (decide (p0 > p1)) = true then
    some 1
  else
  some 0
def ref02_Compare (p0 : GStamp) (p1 : GStamp) : Option Int :=
  (ref02_order p0.Time p1.Time).bind fun r1 =>
  if (r1 == 0) = true then
    (ref02_order p0.Source p1.Source).bind fun r3 =>
    if (r3 == 0) = true then
      (ref02_order p0.Seq p1.Seq).bind fun r5 =>
      some r5
    else
    some r3
  else
  if (r1 == 0) = true then
    (ref02_order p0.Seq p1.Seq).bind fun r7 =>
    some r7
  else
  some r1
def stamp_compareIdentity (F : Nat) (p0 : GStamp) (p1 : GStamp) : Option Int :=
  (cmp_Compare_int p0.Source p1.Source).bind fun r1 =>
  (cmp_Compare_int p0.Seq p1.Seq).bind fun r2 =>
  (cmp_Or_int F [r1, r2]).bind fun r3 =>
  some r3
def stamp_groups_1 (F : Nat) (p0 : Int) (p1 : Int) (c0 : List GStamp) : Option Int :=
  (idx c0 p0).bind fun x1 =>
  (idx c0 p1).bind fun x2 =>
  (stamp_compareIdentity F x1 x2).bind fun r3 =>
  (cmp_Compare_int p0 p1).bind fun r4 =>
  (cmp_Or_int F [r3, r4]).bind fun r5 =>
  some r5
def stamp_groups_L2_B (F : Nat) (p0 : List GStamp) (p1 : List Int) (l8 : List Int) (rec2 : Int → (List stamp_group) → Option (List stamp_group)) (n9 : Int) (l10 : List stamp_group) : Option (List stamp_group) :=
  if (decide (n9 < (l8.length : Int))) = true then
    (idx l8 n9).bind fun x12 =>
    (if (decide ((i64 ((l10.length : Int) - 1)) < 0)) = true then some true else (idx l10 (i64 ((l10.length : Int) - 1))).bind fun x16 => (idx p0 x16.first).bind fun x17 => (idx p0 x12).bind fun x18 => (stamp_compareIdentity F x17 x18).bind fun r19 => some (r19 != 0)).bind fun w14 =>
    if w14 = true then
      (app l10 [(stamp_group.mk x12 false)]).bind fun v21 =>
      rec2 (i64 (n9 + 1)) v21
    else
    (idx l10 (i64 ((l10.length : Int) - 1))).bind fun x22 =>
    ((idx p0 x22.first).bind fun x25 => (idx p0 x12).bind fun x26 => if (!(decide (x25 = x26))) = true then some true else (idx p1 x22.first).bind fun x28 => (idx p1 x12).bind fun x29 => some (x28 != x29)).bind fun w24 =>
    if w24 = true then
      (idx l10 (i64 ((l10.length : Int) - 1))).bind fun x31 =>
      rec2 (i64 (n9 + 1)) (l10.set ((i64 ((l10.length : Int) - 1)).toNat) (stamp_group.mk x31.first true))
    else
    rec2 (i64 (n9 + 1)) l10
  else
  some l10
def stamp_groups_L2 (F : Nat) (p0 : List GStamp) (p1 : List Int) (l8 : List Int) : Nat → Int → (List stamp_group) → Option (List stamp_group)
  | 0 => fun _ _ => .none
  | n + 1 => stamp_groups_L2_B F p0 p1 l8 (stamp_groups_L2 F p0 p1 l8 n)
def stamp_groups_L1_B (F : Nat) (p0 : List GStamp) (p1 : List Int) (rec1 : Int → (List Int) → Option (List stamp_group)) (n1 : Int) (l2 : List Int) : Option (List stamp_group) :=
  if (decide (n1 < (p0.length : Int))) = true then
    (idx p0 n1).bind fun x4 =>
    (stamp_Valid x4).bind fun r5 =>
    if r5 = true then
      (app l2 [n1]).bind fun v7 =>
      rec1 (i64 (n1 + 1)) v7
    else
    rec1 (i64 (n1 + 1)) l2
  else
  (sortF (fun a0 a1 => stamp_groups_1 F a0 a1 p0) l2).bind fun l8 =>
  stamp_groups_L2 F p0 p1 l8 F 0 ([] : List stamp_group)
def stamp_groups_L1 (F : Nat) (p0 : List GStamp) (p1 : List Int) : Nat → Int → (List Int) → Option (List stamp_group)
  | 0 => fun _ _ => .none
  | n + 1 => stamp_groups_L1_B F p0 p1 (stamp_groups_L1 F p0 p1 n)
def stamp_groups (F : Nat) (p0 : List GStamp) (p1 : List Int) : Option (List stamp_group) :=
  stamp_groups_L1 F p0 p1 F 0 ([] : List Int)
def stamp_Canonical_1 (F : Nat) (p0 : Int) (p1 : Int) (c0 : List GStamp) : Option Int :=
  (idx c0 p0).bind fun x1 =>
  (idx c0 p1).bind fun x2 =>
  (stamp_Compare F x1 x2).bind fun r3 =>
  some r3
def stamp_Canonical_L1_B (F : Nat) (p0 : List GStamp) (r2 : List stamp_group) (rec1 : Int → (List Int) → Option (List Int × Int)) (n3 : Int) (l4 : List Int) : Option (List Int × Int) :=
  if (decide (n3 < (r2.length : Int))) = true then
    (idx r2 n3).bind fun x6 =>
    if (!x6.disputed) = true then
      (app l4 [x6.first]).bind fun v8 =>
      rec1 (i64 (n3 + 1)) v8
    else
    rec1 (i64 (n3 + 1)) l4
  else
  if (decide ((l4.length : Int) > 300)) = true then
    some ([], 3)
  else
  (sortF (fun a0 a1 => stamp_Canonical_1 F a0 a1 p0) l4).bind fun l10 =>
  some (l10, 0)
def stamp_Canonical_L1 (F : Nat) (p0 : List GStamp) (r2 : List stamp_group) : Nat → Int → (List Int) → Option (List Int × Int)
  | 0 => fun _ _ => .none
  | n + 1 => stamp_Canonical_L1_B F p0 r2 (stamp_Canonical_L1 F p0 r2 n)
def stamp_Canonical (F : Nat) (p0 : List GStamp) (p1 : List Int) : Option (List Int × Int) :=
  if ((p0.length : Int) != (p1.length : Int)) = true then
    some ([], 1)
  else
  (stamp_groups F p0 p1).bind fun r2 =>
  stamp_Canonical_L1 F p0 r2 F 0 ([] : List Int)
def stamp_Known (F : Nat) (p0 : List GStamp) (p1 : List Int) (p2 : Int) : Option (List Int × Int) :=
  if ((p0.length : Int) != (p1.length : Int)) = true then
    some ([], 1)
  else
  if ((decide (p2 < 0)) || (decide (p2 > (p0.length : Int)))) = true then
    some ([], 2)
  else
  (slc p0 0 p2).bind fun v5 =>
  (slc p1 0 p2).bind fun v6 =>
  (stamp_Canonical F v5 v6).bind fun r7 =>
  some (r7.1, r7.2)
def law02_same_L1_B (p0 : List Int) (p1 : List Int) (rec1 : Int → Option Bool) (n2 : Int) : Option Bool :=
  if (decide (n2 < (p0.length : Int))) = true then
    (idx p0 n2).bind fun x4 =>
    (idx p1 n2).bind fun x5 =>
    if (x4 != x5) = true then
      some false
    else
    rec1 (i64 (n2 + 1))
  else
  some true
def law02_same_L1 (p0 : List Int) (p1 : List Int) : Nat → Int → Option Bool
  | 0 => fun _ => .none
  | n + 1 => law02_same_L1_B p0 p1 (law02_same_L1 p0 p1 n)
def law02_same (F : Nat) (p0 : List Int) (p1 : List Int) : Option Bool :=
  if ((p0.length : Int) != (p1.length : Int)) = true then
    some false
  else
  law02_same_L1 p0 p1 F 0
def law02_awake (F : Nat) : Option Bool :=
  (stamp_Canonical F [(GStamp.mk 5 1 0), (GStamp.mk 3 2 7), (GStamp.mk 5 1 0), (GStamp.mk 4 2 7)] [0, 0, 0, 0]).bind fun r1 =>
  (stamp_Known F [(GStamp.mk 5 1 0), (GStamp.mk 3 2 7), (GStamp.mk 5 1 0), (GStamp.mk 4 2 7)] [0, 0, 0, 0] 3).bind fun r2 =>
  (if (r1.2 == 0) = true then if (r2.2 == 0) = true then (law02_same F r1.1 [0]).bind fun r7 => if r7 = true then (law02_same F r2.1 [1, 0]).bind fun r9 => if r9 = true then (idx [(GStamp.mk 5 1 0), (GStamp.mk 3 2 7), (GStamp.mk 5 1 0), (GStamp.mk 4 2 7)] 0).bind fun x11 => (stamp_Valid x11).bind fun r12 => some r12 else some false else some false else some false else some false).bind fun w4 =>
  some w4
def law02_StampCompares (F : Nat) (p0 : Int) (p1 : Int) (p2 : Int) (p3 : Int) (p4 : Int) (p5 : Int) : Option Bool :=
  ((stamp_Valid (GStamp.mk p0 p1 p2)).bind fun r3 => (ref02_Valid (GStamp.mk p0 p1 p2)).bind fun r4 => if (r3 == r4) = true then (stamp_Compare F (GStamp.mk p0 p1 p2) (GStamp.mk p3 p4 p5)).bind fun r6 => (ref02_Compare (GStamp.mk p0 p1 p2) (GStamp.mk p3 p4 p5)).bind fun r7 => if (r6 == r7) = true then (stamp_Compare F (GStamp.mk p0 p1 p2) (GStamp.mk p0 p4 p2)).bind fun r9 => (ref02_Compare (GStamp.mk p0 p1 p2) (GStamp.mk p0 p4 p2)).bind fun r10 => if (r9 == r10) = true then (stamp_Compare F (GStamp.mk p0 p1 p2) (GStamp.mk p0 p1 p2)).bind fun r12 => if (r12 == 0) = true then (law02_awake F).bind fun r14 => some r14 else some false else some false else some false else some false).bind fun w2 =>
  some w2
def make_New (p0 : List Int) : Option GTape :=
  if (decide ((p0.length : Int) > 600)) = true then
    (slc p0 0 600).bind fun v2 =>
    some (GTape.mk v2 0)
  else
  some (GTape.mk p0 0)
def GTape_Raw (p0 : GTape) : Option (Int × GTape) :=
  if (decide (p0.At ≥ (p0.L.length : Int))) = true then
    some (0, p0)
  else
  (idx p0.L (i64 ((i64 (p0.At + 1)) - 1))).bind fun x2 =>
  some (x2, (GTape.mk p0.L (i64 (p0.At + 1))))
def make_Cut (p0 : Int) (p1 : Int) : Option Int :=
  if (decide (p1 < 1)) = true then
    some 0
  else
  (rmd p0 p1).bind fun v2 =>
  if (decide (v2 < 0)) = true then
    some (i64 (v2 + p1))
  else
  some v2
def GTape_Next (p0 : GTape) (p1 : Int) : Option (Int × GTape) :=
  (GTape_Raw p0).bind fun r1 =>
  (make_Cut r1.1 p1).bind fun r2 =>
  some (r2, r1.2)
def GTape_Range (p0 : GTape) (p1 : Int) (p2 : Int) : Option (Int × GTape) :=
  (GTape_Next p0 (i64 ((i64 (p2 - p1)) + 1))).bind fun r1 =>
  some ((i64 (p1 + r1.1)), r1.2)
def GTape_One (p0 : GTape) (p1 : Int) : Option (Bool × GTape) :=
  (GTape_Next p0 p1).bind fun r1 =>
  some ((r1.1 == (i64 (p1 - 1))), r1.2)
def GTape_Pick (p0 : GTape) (p1 : List Int) : Option (Int × GTape) :=
  (GTape_Next p0 (p1.length : Int)).bind fun r1 =>
  (idx p1 r1.1).bind fun x2 =>
  some (x2, r1.2)
def GTape_Wild (p0 : GTape) : Option (Int × GTape) :=
  (GTape_Pick p0 [(-1), 0, 1, 2, 31, 32, 99, 100, 200, 201, 9999, 10000, 1000000, 1000001, 1152921504606846976, 1152921504606846977, (-1152921504606846976), 9223372036854775807, (-9223372036854775808)]).bind fun r1 =>
  some (r1.1, r1.2)
def GTape_Stamp (p0 : GTape) (p1 : Int) : Option (GStamp × GTape) :=
  (GTape_Range p0 0 24).bind fun r1 =>
  (GTape_Range r1.2 0 3).bind fun r2 =>
  (GTape_Range r2.2 0 9).bind fun r3 =>
  (if (decide (p1 > 0)) = true then (GTape_One r3.2 p1).bind fun r9 => some (r9.1, r9.2.L, r9.2.At) else some (false, r3.2.L, r3.2.At)).bind fun w7 =>
  if w7.1 = true then
    (GTape_Next (GTape.mk w7.2.1 w7.2.2) 3).bind fun r11 =>
    if (r11.1 == 0) = true then
      (GTape_Wild r11.2).bind fun r13 =>
      some ((GStamp.mk r13.1 r2.1 r3.1), r13.2)
    else
    if (r11.1 == 1) = true then
      (GTape_Wild r11.2).bind fun r15 =>
      some ((GStamp.mk r1.1 r15.1 r3.1), r15.2)
    else
    (GTape_Wild r11.2).bind fun r16 =>
    some ((GStamp.mk r1.1 r2.1 r16.1), r16.2)
  else
  some ((GStamp.mk r1.1 r2.1 r3.1), (GTape.mk w7.2.1 w7.2.2))
def law02_events_L1_B (p2 : Int) (rec1 : Int → (List Int) → Int → (List GStamp) → (List Int) → Option (List GStamp × List Int × GTape)) (n2 : Int) (l3 : List Int) (n4 : Int) (l5 : List GStamp) (l6 : List Int) : Option (List GStamp × List Int × GTape) :=
  if (decide (n2 > 0)) = true then
    (GTape_Stamp (GTape.mk l3 n4) p2).bind fun r8 =>
    (if (decide ((l5.length : Int) > 0)) = true then (GTape_Next r8.2 3).bind fun r14 => some ((r14.1 == 0), r14.2.L, r14.2.At) else some (false, r8.2.L, r8.2.At)).bind fun w12 =>
    if w12.1 = true then
      (GTape_Next (GTape.mk w12.2.1 w12.2.2) (l5.length : Int)).bind fun r16 =>
      (idx l5 r16.1).bind fun x17 =>
      (GTape_One r16.2 5).bind fun r18 =>
      if r18.1 = true then
        (GTape_Next r18.2 3).bind fun r20 =>
        (app l5 [x17]).bind fun v21 =>
        (app l6 [r20.1]).bind fun v22 =>
        rec1 (i64 (n2 - 1)) r20.2.L r20.2.At v21 v22
      else
      (app l5 [x17]).bind fun v23 =>
      (app l6 [0]).bind fun v24 =>
      rec1 (i64 (n2 - 1)) r18.2.L r18.2.At v23 v24
    else
    (GTape_One (GTape.mk w12.2.1 w12.2.2) 5).bind fun r25 =>
    if r25.1 = true then
      (GTape_Next r25.2 3).bind fun r27 =>
      (app l5 [r8.1]).bind fun v28 =>
      (app l6 [r27.1]).bind fun v29 =>
      rec1 (i64 (n2 - 1)) r27.2.L r27.2.At v28 v29
    else
    (app l5 [r8.1]).bind fun v30 =>
    (app l6 [0]).bind fun v31 =>
    rec1 (i64 (n2 - 1)) r25.2.L r25.2.At v30 v31
  else
  some (l5, l6, (GTape.mk l3 n4))
def law02_events_L1 (p2 : Int) : Nat → Int → (List Int) → Int → (List GStamp) → (List Int) → Option (List GStamp × List Int × GTape)
  | 0 => fun _ _ _ _ _ => .none
  | n + 1 => law02_events_L1_B p2 (law02_events_L1 p2 n)
def law02_events (F : Nat) (p0 : GTape) (p1 : Int) (p2 : Int) : Option (List GStamp × List Int × GTape) :=
  (GTape_Range p0 0 p1).bind fun r1 =>
  law02_events_L1 p2 F r1.1 r1.2.L r1.2.At ([] : List GStamp) ([] : List Int)
def ref02_disputes (p0 : GStamp) (p1 : GStamp) (p2 : Int) (p3 : Int) : Option Bool :=
  some ((p0.Source == p1.Source) && ((p0.Seq == p1.Seq) && ((p0.Time != p1.Time) || (p2 != p3))))
def ref02_Counts_L1_B (p0 : List GStamp) (p1 : List Int) (p2 : Int) (rec1 : Int → Option Bool) (n4 : Int) : Option Bool :=
  if (decide (n4 < (p0.length : Int))) = true then
    ((idx p0 n4).bind fun x8 => (ref02_Valid x8).bind fun r9 => if r9 = true then (idx p0 p2).bind fun x11 => (idx p0 n4).bind fun x12 => (idx p1 p2).bind fun x13 => (idx p1 n4).bind fun x14 => (ref02_disputes x11 x12 x13 x14).bind fun r15 => if r15 = true then some true else if (decide (n4 < p2)) = true then (idx p0 n4).bind fun x18 => (idx p0 p2).bind fun x19 => some (decide (x18 = x19)) else some false else some false).bind fun w7 =>
    if w7 = true then
      some false
    else
    rec1 (i64 (n4 + 1))
  else
  some true
def ref02_Counts_L1 (p0 : List GStamp) (p1 : List Int) (p2 : Int) : Nat → Int → Option Bool
  | 0 => fun _ => .none
  | n + 1 => ref02_Counts_L1_B p0 p1 p2 (ref02_Counts_L1 p0 p1 p2 n)
def ref02_Counts (F : Nat) (p0 : List GStamp) (p1 : List Int) (p2 : Int) : Option Bool :=
  (idx p0 p2).bind fun x1 =>
  (ref02_Valid x1).bind fun r2 =>
  if (!r2) = true then
    some false
  else
  ref02_Counts_L1 p0 p1 p2 F 0
def ref02_Canonical_L2_B (rec1 : (List Int) → Int → Option (List Int × Int)) (p0 : List GStamp) (l2 : List Int) (n3 : Int) (rec2 : Int → Option (List Int × Int)) (n7 : Int) : Option (List Int × Int) :=
  (if (decide (n7 > 0)) = true then (idx l2 (i64 (n7 - 1))).bind fun x11 => (idx p0 x11).bind fun x12 => (idx p0 n3).bind fun x13 => (ref02_Compare x12 x13).bind fun r14 => some (decide (r14 > 0)) else some false).bind fun w9 =>
  if w9 = true then
    rec2 (i64 (n7 - 1))
  else
  (slc l2 0 n7).bind fun v16 =>
  (app [] v16).bind fun v17 =>
  (app v17 [n3]).bind fun v18 =>
  (slc l2 n7 (l2.length : Int)).bind fun v19 =>
  (app v18 v19).bind fun v20 =>
  rec1 v20 (i64 (n3 + 1))
def ref02_Canonical_L2 (rec1 : (List Int) → Int → Option (List Int × Int)) (p0 : List GStamp) (l2 : List Int) (n3 : Int) : Nat → Int → Option (List Int × Int)
  | 0 => fun _ => .none
  | n + 1 => ref02_Canonical_L2_B rec1 p0 l2 n3 (ref02_Canonical_L2 rec1 p0 l2 n3 n)
def ref02_Canonical_L1_B (F : Nat) (p0 : List GStamp) (p1 : List Int) (rec1 : (List Int) → Int → Option (List Int × Int)) (l2 : List Int) (n3 : Int) : Option (List Int × Int) :=
  if (decide (n3 < (p0.length : Int))) = true then
    (ref02_Counts F p0 p1 n3).bind fun r5 =>
    if (!r5) = true then
      rec1 l2 (i64 (n3 + 1))
    else
    ref02_Canonical_L2 rec1 p0 l2 n3 F (l2.length : Int)
  else
  if (decide ((l2.length : Int) > 300)) = true then
    some ([], 3)
  else
  some (l2, 0)
def ref02_Canonical_L1 (F : Nat) (p0 : List GStamp) (p1 : List Int) : Nat → (List Int) → Int → Option (List Int × Int)
  | 0 => fun _ _ => .none
  | n + 1 => ref02_Canonical_L1_B F p0 p1 (ref02_Canonical_L1 F p0 p1 n)
def ref02_Canonical (F : Nat) (p0 : List GStamp) (p1 : List Int) : Option (List Int × Int) :=
  if ((p1.length : Int) != (p0.length : Int)) = true then
    some ([], 1)
  else
  ref02_Canonical_L1 F p0 p1 F ([] : List Int) 0
def law02_StampCanonical (F : Nat) (p0 : List Int) (p1 : List Int) : Option Bool :=
  (make_New p0).bind fun r1 =>
  (law02_events F r1 14 6).bind fun r2 =>
  ((GTape_One r2.2.2 10).bind fun r5 => if r5.1 = true then some (decide ((p1.length : Int) < 20)) else some false).bind fun w4 =>
  if w4 = true then
    (app r2.2.1 p1).bind fun v8 =>
    (stamp_Canonical F r2.1 v8).bind fun r9 =>
    (ref02_Canonical F r2.1 v8).bind fun r10 =>
    ((law02_same F r9.1 r10.1).bind fun r13 => if r13 = true then if (r9.2 == r10.2) = true then (law02_awake F).bind fun r16 => some r16 else some false else some false).bind fun w12 =>
    some w12
  else
  (stamp_Canonical F r2.1 r2.2.1).bind fun r17 =>
  (ref02_Canonical F r2.1 r2.2.1).bind fun r18 =>
  ((law02_same F r17.1 r18.1).bind fun r21 => if r21 = true then if (r17.2 == r18.2) = true then (law02_awake F).bind fun r24 => some r24 else some false else some false).bind fun w20 =>
  some w20
def ref02_Known (F : Nat) (p0 : List GStamp) (p1 : List Int) (p2 : Int) : Option (List Int × Int) :=
  if ((p1.length : Int) != (p0.length : Int)) = true then
    some ([], 1)
  else
  if ((decide (p2 < 0)) || (decide (p2 > (p0.length : Int)))) = true then
    some ([], 2)
  else
  (slc p0 0 p2).bind fun v5 =>
  (slc p1 0 p2).bind fun v6 =>
  (ref02_Canonical F v5 v6).bind fun r7 =>
  some (r7.1, r7.2)
def law02_StampKnows (F : Nat) (p0 : List Int) (p1 : Int) : Option Bool :=
  (make_New p0).bind fun r1 =>
  (law02_events F r1 14 6).bind fun r2 =>
  (GTape_Range r2.2.2 0 (r2.1.length : Int)).bind fun r3 =>
  (stamp_Known F r2.1 r2.2.1 p1).bind fun r4 =>
  (ref02_Known F r2.1 r2.2.1 p1).bind fun r5 =>
  (stamp_Known F r2.1 r2.2.1 r3.1).bind fun r6 =>
  (slc r2.1 0 r3.1).bind fun v7 =>
  (slc r2.2.1 0 r3.1).bind fun v8 =>
  (stamp_Canonical F v7 v8).bind fun r9 =>
  ((law02_same F r4.1 r5.1).bind fun r12 => if r12 = true then if (r4.2 == r5.2) = true then (law02_same F r6.1 r9.1).bind fun r15 => if r15 = true then if (r6.2 == r9.2) = true then (law02_awake F).bind fun r18 => some r18 else some false else some false else some false else some false).bind fun w11 =>
  some w11
def law02_StampMany_L3_B (F : Nat) (r1 : Int) (r13 : List Int × Int) (rec3 : Int → Option Bool) (n23 : Int) : Option Bool :=
  if (decide (n23 < (i64 (295 + r1)))) = true then
    (idx r13.1 n23).bind fun x25 =>
    if (x25 != (i64 ((i64 ((i64 (295 + r1)) - 1)) - n23))) = true then
      some false
    else
    rec3 (i64 (n23 + 1))
  else
  (law02_awake F).bind fun r27 =>
  some r27
def law02_StampMany_L3 (F : Nat) (r1 : Int) (r13 : List Int × Int) : Nat → Int → Option Bool
  | 0 => fun _ => .none
  | n + 1 => law02_StampMany_L3_B F r1 r13 (law02_StampMany_L3 F r1 r13 n)
def law02_StampMany_L2_B (F : Nat) (r1 : Int) (r2 : Int) (rec2 : Int → (List GStamp) → Option Bool) (n7 : Int) (l8 : List GStamp) : Option Bool :=
  if (decide (n7 < r2)) = true then
    (idx l8 n7).bind fun x10 =>
    (app l8 [x10]).bind fun v11 =>
    rec2 (i64 (n7 + 1)) v11
  else
  (mkl (0 : Int) (l8.length : Int)).bind fun v12 =>
  (stamp_Canonical F l8 v12).bind fun r13 =>
  if (decide ((i64 (295 + r1)) > 300)) = true then
    (if (r13.2 == 3) = true then if ((r13.1.length : Int) == 0) = true then (law02_awake F).bind fun r19 => some r19 else some false else some false).bind fun w16 =>
    some w16
  else
  if ((r13.2 != 0) || ((r13.1.length : Int) != (i64 (295 + r1)))) = true then
    some false
  else
  law02_StampMany_L3 F r1 r13 F 0
def law02_StampMany_L2 (F : Nat) (r1 : Int) (r2 : Int) : Nat → Int → (List GStamp) → Option Bool
  | 0 => fun _ _ => .none
  | n + 1 => law02_StampMany_L2_B F r1 r2 (law02_StampMany_L2 F r1 r2 n)
def law02_StampMany_L1_B (F : Nat) (r1 : Int) (r2 : Int) (rec1 : Int → (List GStamp) → Option Bool) (n3 : Int) (l4 : List GStamp) : Option Bool :=
  if (decide (n3 < (i64 (295 + r1)))) = true then
    (app l4 [(GStamp.mk (i64 ((i64 (295 + r1)) - n3)) 1 n3)]).bind fun v6 =>
    rec1 (i64 (n3 + 1)) v6
  else
  law02_StampMany_L2 F r1 r2 F 0 l4
def law02_StampMany_L1 (F : Nat) (r1 : Int) (r2 : Int) : Nat → Int → (List GStamp) → Option Bool
  | 0 => fun _ _ => .none
  | n + 1 => law02_StampMany_L1_B F r1 r2 (law02_StampMany_L1 F r1 r2 n)
def law02_StampMany (F : Nat) (p0 : Int) (p1 : Int) : Option Bool :=
  (make_Cut p0 12).bind fun r1 =>
  (make_Cut p1 20).bind fun r2 =>
  law02_StampMany_L1 F r1 r2 F 0 ([] : List GStamp)
def GTape_Order_L1_B (p1 : Int) (rec1 : (List Int) → Int → (List Int) → Int → Option (List Int × GTape)) (l1 : List Int) (n2 : Int) (l3 : List Int) (n4 : Int) : Option (List Int × GTape) :=
  if (decide (n2 < p1)) = true then
    (GTape_Next (GTape.mk l3 n4) (i64 (n2 + 1))).bind fun r6 =>
    (slc l1 0 r6.1).bind fun v7 =>
    (app [] v7).bind fun v8 =>
    (app v8 [n2]).bind fun v9 =>
    (slc l1 r6.1 (l1.length : Int)).bind fun v10 =>
    (app v9 v10).bind fun v11 =>
    rec1 v11 (i64 (n2 + 1)) r6.2.L r6.2.At
  else
  some (l1, (GTape.mk l3 n4))
def GTape_Order_L1 (p1 : Int) : Nat → (List Int) → Int → (List Int) → Int → Option (List Int × GTape)
  | 0 => fun _ _ _ _ => .none
  | n + 1 => GTape_Order_L1_B p1 (GTape_Order_L1 p1 n)
def GTape_Order (F : Nat) (p0 : GTape) (p1 : Int) : Option (List Int × GTape) :=
  GTape_Order_L1 p1 F ([] : List Int) 0 p0.L p0.At
def GTape_Mixed_L1_B (p1 : Int) (rec1 : (List Int) → Int → (List Int) → Int → Option (List Int × GTape)) (l3 : List Int) (n4 : Int) (l5 : List Int) (n6 : Int) : Option (List Int × GTape) :=
  if ((decide (n4 > 0)) && (decide (p1 > 0))) = true then
    (GTape_Next (GTape.mk l5 n6) (i64 ((l3.length : Int) + 1))).bind fun r10 =>
    (GTape_Next r10.2 p1).bind fun r11 =>
    (slc l3 0 r10.1).bind fun v12 =>
    (app [] v12).bind fun v13 =>
    (app v13 [r11.1]).bind fun v14 =>
    (slc l3 r10.1 (l3.length : Int)).bind fun v15 =>
    (app v14 v15).bind fun v16 =>
    rec1 v16 (i64 (n4 - 1)) r11.2.L r11.2.At
  else
  some (l3, (GTape.mk l5 n6))
def GTape_Mixed_L1 (p1 : Int) : Nat → (List Int) → Int → (List Int) → Int → Option (List Int × GTape)
  | 0 => fun _ _ _ _ => .none
  | n + 1 => GTape_Mixed_L1_B p1 (GTape_Mixed_L1 p1 n)
def GTape_Mixed (F : Nat) (p0 : GTape) (p1 : Int) : Option (List Int × GTape) :=
  (GTape_Order F p0 p1).bind fun r1 =>
  (GTape_Next r1.2 4).bind fun r2 =>
  GTape_Mixed_L1 p1 F r1.1 r2.1 r2.2.L r2.2.At
def law02_StampAnyOrder_L2_B (F : Nat) (r2 : List GStamp × List Int × GTape) (l5 : List GStamp) (l6 : List Int) (r14 : List Int × Int) (r15 : List Int × Int) (rec2 : Int → Option Bool) (n20 : Int) : Option Bool :=
  if (decide (n20 < (r14.1.length : Int))) = true then
    ((idx r14.1 n20).bind fun x24 => if (decide (x24 < 0)) = true then some true else (idx r14.1 n20).bind fun x26 => if (decide (x26 ≥ (r2.1.length : Int))) = true then some true else (idx r15.1 n20).bind fun x28 => if (decide (x28 < 0)) = true then some true else (idx r15.1 n20).bind fun x30 => if (decide (x30 ≥ (l5.length : Int))) = true then some true else (idx r14.1 n20).bind fun x32 => (idx r2.1 x32).bind fun x33 => (idx r15.1 n20).bind fun x34 => (idx l5 x34).bind fun x35 => if (!(decide (x33 = x35))) = true then some true else (idx r14.1 n20).bind fun x37 => (idx r2.2.1 x37).bind fun x38 => (idx r15.1 n20).bind fun x39 => (idx l6 x39).bind fun x40 => some (x38 != x40)).bind fun w23 =>
    if w23 = true then
      some false
    else
    rec2 (i64 (n20 + 1))
  else
  (law02_awake F).bind fun r42 =>
  some r42
def law02_StampAnyOrder_L2 (F : Nat) (r2 : List GStamp × List Int × GTape) (l5 : List GStamp) (l6 : List Int) (r14 : List Int × Int) (r15 : List Int × Int) : Nat → Int → Option Bool
  | 0 => fun _ => .none
  | n + 1 => law02_StampAnyOrder_L2_B F r2 l5 l6 r14 r15 (law02_StampAnyOrder_L2 F r2 l5 l6 r14 r15 n)
def law02_StampAnyOrder_L1_B (F : Nat) (r2 : List GStamp × List Int × GTape) (r3 : List Int × GTape) (rec1 : Int → (List GStamp) → (List Int) → Option Bool) (n4 : Int) (l5 : List GStamp) (l6 : List Int) : Option Bool :=
  if (decide (n4 < (r3.1.length : Int))) = true then
    (idx r3.1 n4).bind fun x8 =>
    (idx r2.1 x8).bind fun x9 =>
    (app l5 [x9]).bind fun v10 =>
    (idx r3.1 n4).bind fun x11 =>
    (idx r2.2.1 x11).bind fun x12 =>
    (app l6 [x12]).bind fun v13 =>
    rec1 (i64 (n4 + 1)) v10 v13
  else
  (stamp_Canonical F r2.1 r2.2.1).bind fun r14 =>
  (stamp_Canonical F l5 l6).bind fun r15 =>
  if ((r14.2 != 0) || ((r15.2 != 0) || ((r14.1.length : Int) != (r15.1.length : Int)))) = true then
    some false
  else
  law02_StampAnyOrder_L2 F r2 l5 l6 r14 r15 F 0
def law02_StampAnyOrder_L1 (F : Nat) (r2 : List GStamp × List Int × GTape) (r3 : List Int × GTape) : Nat → Int → (List GStamp) → (List Int) → Option Bool
  | 0 => fun _ _ _ => .none
  | n + 1 => law02_StampAnyOrder_L1_B F r2 r3 (law02_StampAnyOrder_L1 F r2 r3 n)
def law02_StampAnyOrder (F : Nat) (p0 : List Int) : Option Bool :=
  (make_New p0).bind fun r1 =>
  (law02_events F r1 10 8).bind fun r2 =>
  (GTape_Mixed F r2.2.2 (r2.1.length : Int)).bind fun r3 =>
  law02_StampAnyOrder_L1 F r2 r3 F 0 ([] : List GStamp) ([] : List Int)
def law02_StampTwice_L2_B (rec1 : Int → (List GStamp) → (List Int) → (List Int) → Option Bool) (F : Nat) (r2 : List GStamp × List Int × GTape) (r3 : List Int × Int) (n5 : Int) (l6 : List GStamp) (l7 : List Int) (l8 : List Int) (rec2 : Int → Option Bool) (n20 : Int) : Option Bool :=
  if (decide (n20 < n5)) = true then
    ((idx l6 n20).bind fun x24 => (idx r3.1 n5).bind fun x25 => (idx r2.1 x25).bind fun x26 => if (x24.Source == x26.Source) = true then (idx l6 n20).bind fun x28 => (idx r3.1 n5).bind fun x29 => (idx r2.1 x29).bind fun x30 => if (x28.Seq == x30.Seq) = true then some true else (idx l6 n20).bind fun x32 => (idx r3.1 n5).bind fun x33 => (idx r2.1 x33).bind fun x34 => (stamp_Compare F x32 x34).bind fun r35 => some (decide (r35 ≥ 0)) else (idx l6 n20).bind fun x36 => (idx r3.1 n5).bind fun x37 => (idx r2.1 x37).bind fun x38 => (stamp_Compare F x36 x38).bind fun r39 => some (decide (r39 ≥ 0))).bind fun w23 =>
    if w23 = true then
      some false
    else
    rec2 (i64 (n20 + 1))
  else
  (idx r3.1 n5).bind fun x41 =>
  (idx r2.1 x41).bind fun x42 =>
  (app l6 [x42]).bind fun v43 =>
  (idx r3.1 n5).bind fun x44 =>
  (idx r2.2.1 x44).bind fun x45 =>
  (app l7 [x45]).bind fun v46 =>
  (app l8 [n5]).bind fun v47 =>
  rec1 (i64 (n5 + 1)) v43 v46 v47
def law02_StampTwice_L2 (rec1 : Int → (List GStamp) → (List Int) → (List Int) → Option Bool) (F : Nat) (r2 : List GStamp × List Int × GTape) (r3 : List Int × Int) (n5 : Int) (l6 : List GStamp) (l7 : List Int) (l8 : List Int) : Nat → Int → Option Bool
  | 0 => fun _ => .none
  | n + 1 => law02_StampTwice_L2_B rec1 F r2 r3 n5 l6 l7 l8 (law02_StampTwice_L2 rec1 F r2 r3 n5 l6 l7 l8 n)
def law02_StampTwice_L1_B (F : Nat) (r2 : List GStamp × List Int × GTape) (r3 : List Int × Int) (rec1 : Int → (List GStamp) → (List Int) → (List Int) → Option Bool) (n5 : Int) (l6 : List GStamp) (l7 : List Int) (l8 : List Int) : Option Bool :=
  if (decide (n5 < (r3.1.length : Int))) = true then
    ((idx r3.1 n5).bind fun x12 => if (decide (x12 < 0)) = true then some true else (idx r3.1 n5).bind fun x14 => if (decide (x14 ≥ (r2.1.length : Int))) = true then some true else (idx r3.1 n5).bind fun x16 => (idx r2.1 x16).bind fun x17 => (stamp_Valid x17).bind fun r18 => some (!r18)).bind fun w11 =>
    if w11 = true then
      some false
    else
    law02_StampTwice_L2 rec1 F r2 r3 n5 l6 l7 l8 F 0
  else
  (stamp_Canonical F l6 l7).bind fun r48 =>
  (if (r48.2 == 0) = true then (law02_same F r48.1 l8).bind fun r52 => if r52 = true then (law02_awake F).bind fun r54 => some r54 else some false else some false).bind fun w50 =>
  some w50
def law02_StampTwice_L1 (F : Nat) (r2 : List GStamp × List Int × GTape) (r3 : List Int × Int) : Nat → Int → (List GStamp) → (List Int) → (List Int) → Option Bool
  | 0 => fun _ _ _ _ => .none
  | n + 1 => law02_StampTwice_L1_B F r2 r3 (law02_StampTwice_L1 F r2 r3 n)
def law02_StampTwice (F : Nat) (p0 : List Int) : Option Bool :=
  (make_New p0).bind fun r1 =>
  (law02_events F r1 12 8).bind fun r2 =>
  (stamp_Canonical F r2.1 r2.2.1).bind fun r3 =>
  if (r3.2 != 0) = true then
    some false
  else
  law02_StampTwice_L1 F r2 r3 F 0 ([] : List GStamp) ([] : List Int) ([] : List Int)
def stamp_Until_L1_B (p0 : List GStamp) (p1 : Int) (rec1 : Int → Option Int) (n1 : Int) : Option Int :=
  if (decide (n1 < (p0.length : Int))) = true then
    (idx p0 n1).bind fun x3 =>
    if (decide (x3.Time > p1)) = true then
      some n1
    else
    rec1 (i64 (n1 + 1))
  else
  some (p0.length : Int)
def stamp_Until_L1 (p0 : List GStamp) (p1 : Int) : Nat → Int → Option Int
  | 0 => fun _ => .none
  | n + 1 => stamp_Until_L1_B p0 p1 (stamp_Until_L1 p0 p1 n)
def stamp_Until (F : Nat) (p0 : List GStamp) (p1 : Int) : Option Int :=
  stamp_Until_L1 p0 p1 F 0
def ref02_Until_L1_B (p0 : List GStamp) (p1 : Int) (rec1 : Int → Option Int) (n1 : Int) : Option Int :=
  if (decide (n1 < (p0.length : Int))) = true then
    (idx p0 n1).bind fun x3 =>
    if (decide (x3.Time > p1)) = true then
      some n1
    else
    rec1 (i64 (n1 + 1))
  else
  some (p0.length : Int)
def ref02_Until_L1 (p0 : List GStamp) (p1 : Int) : Nat → Int → Option Int
  | 0 => fun _ => .none
  | n + 1 => ref02_Until_L1_B p0 p1 (ref02_Until_L1 p0 p1 n)
def ref02_Until (F : Nat) (p0 : List GStamp) (p1 : Int) : Option Int :=
  ref02_Until_L1 p0 p1 F 0
def law02_StampUntil (F : Nat) (p0 : List Int) (p1 : Int) : Option Bool :=
  (make_New p0).bind fun r1 =>
  (law02_events F r1 14 6).bind fun r2 =>
  (GTape_Range r2.2.2 0 30).bind fun r3 =>
  ((stamp_Until F r2.1 p1).bind fun r6 => (ref02_Until F r2.1 p1).bind fun r7 => if (r6 == r7) = true then (stamp_Until F r2.1 r3.1).bind fun r9 => (ref02_Until F r2.1 r3.1).bind fun r10 => if (r9 == r10) = true then (law02_awake F).bind fun r12 => some r12 else some false else some false).bind fun w5 =>
  some w5
def stamp_Disputed_L1_B (p0 : List GStamp) (r2 : List stamp_group) (rec1 : Int → (List GIdentity) → Option (List GIdentity × Int)) (n3 : Int) (l4 : List GIdentity) : Option (List GIdentity × Int) :=
  if (decide (n3 < (r2.length : Int))) = true then
    (idx r2 n3).bind fun x6 =>
    if x6.disputed = true then
      (idx p0 x6.first).bind fun x8 =>
      (idx p0 x6.first).bind fun x9 =>
      (app l4 [(GIdentity.mk x8.Source x9.Seq)]).bind fun v10 =>
      rec1 (i64 (n3 + 1)) v10
    else
    rec1 (i64 (n3 + 1)) l4
  else
  some (l4, 0)
def stamp_Disputed_L1 (p0 : List GStamp) (r2 : List stamp_group) : Nat → Int → (List GIdentity) → Option (List GIdentity × Int)
  | 0 => fun _ _ => .none
  | n + 1 => stamp_Disputed_L1_B p0 r2 (stamp_Disputed_L1 p0 r2 n)
def stamp_Disputed (F : Nat) (p0 : List GStamp) (p1 : List Int) : Option (List GIdentity × Int) :=
  if ((p0.length : Int) != (p1.length : Int)) = true then
    some ([], 1)
  else
  (stamp_groups F p0 p1).bind fun r2 =>
  stamp_Disputed_L1 p0 r2 F 0 ([] : List GIdentity)
def ref02_before (p0 : GIdentity) (p1 : GIdentity) : Option Bool :=
  some ((decide (p0.Source < p1.Source)) || ((p0.Source == p1.Source) && (decide (p0.Seq < p1.Seq))))
def ref02_Disputed_L3_B (rec1 : (List GIdentity) → Int → Option (List GIdentity × Int)) (l2 : List GIdentity) (n3 : Int) (x5 : GStamp) (x6 : GStamp) (b7 : Bool) (rec3 : Int → Option (List GIdentity × Int)) (n24 : Int) : Option (List GIdentity × Int) :=
  (if (decide (n24 < (l2.length : Int))) = true then (idx l2 n24).bind fun x28 => (ref02_before x28 (GIdentity.mk x5.Source x6.Seq)).bind fun r29 => some r29 else some false).bind fun w26 =>
  if w26 = true then
    rec3 (i64 (n24 + 1))
  else
  (if (!b7) = true then some true else if (decide (n24 < (l2.length : Int))) = true then (idx l2 n24).bind fun x35 => some (decide (x35 = (GIdentity.mk x5.Source x6.Seq))) else some false).bind fun w32 =>
  if w32 = true then
    rec1 l2 (i64 (n3 + 1))
  else
  (slc l2 0 n24).bind fun v37 =>
  (app [] v37).bind fun v38 =>
  (app v38 [(GIdentity.mk x5.Source x6.Seq)]).bind fun v39 =>
  (slc l2 n24 (l2.length : Int)).bind fun v40 =>
  (app v39 v40).bind fun v41 =>
  rec1 v41 (i64 (n3 + 1))
def ref02_Disputed_L3 (rec1 : (List GIdentity) → Int → Option (List GIdentity × Int)) (l2 : List GIdentity) (n3 : Int) (x5 : GStamp) (x6 : GStamp) (b7 : Bool) : Nat → Int → Option (List GIdentity × Int)
  | 0 => fun _ => .none
  | n + 1 => ref02_Disputed_L3_B rec1 l2 n3 x5 x6 b7 (ref02_Disputed_L3 rec1 l2 n3 x5 x6 b7 n)
def ref02_Disputed_L2_B (rec1 : (List GIdentity) → Int → Option (List GIdentity × Int)) (F : Nat) (p0 : List GStamp) (p1 : List Int) (l2 : List GIdentity) (n3 : Int) (x5 : GStamp) (x6 : GStamp) (rec2 : Bool → Int → Option (List GIdentity × Int)) (b7 : Bool) (n8 : Int) : Option (List GIdentity × Int) :=
  if (decide (n8 < (p0.length : Int))) = true then
    (if b7 = true then some true else (idx p0 n3).bind fun x13 => (ref02_Valid x13).bind fun r14 => if r14 = true then (idx p0 n8).bind fun x16 => (ref02_Valid x16).bind fun r17 => if r17 = true then (idx p0 n3).bind fun x19 => (idx p0 n8).bind fun x20 => (idx p1 n3).bind fun x21 => (idx p1 n8).bind fun x22 => (ref02_disputes x19 x20 x21 x22).bind fun r23 => some r23 else some false else some false).bind fun w11 =>
    rec2 w11 (i64 (n8 + 1))
  else
  ref02_Disputed_L3 rec1 l2 n3 x5 x6 b7 F 0
def ref02_Disputed_L2 (rec1 : (List GIdentity) → Int → Option (List GIdentity × Int)) (F : Nat) (p0 : List GStamp) (p1 : List Int) (l2 : List GIdentity) (n3 : Int) (x5 : GStamp) (x6 : GStamp) : Nat → Bool → Int → Option (List GIdentity × Int)
  | 0 => fun _ _ => .none
  | n + 1 => ref02_Disputed_L2_B rec1 F p0 p1 l2 n3 x5 x6 (ref02_Disputed_L2 rec1 F p0 p1 l2 n3 x5 x6 n)
def ref02_Disputed_L1_B (F : Nat) (p0 : List GStamp) (p1 : List Int) (rec1 : (List GIdentity) → Int → Option (List GIdentity × Int)) (l2 : List GIdentity) (n3 : Int) : Option (List GIdentity × Int) :=
  if (decide (n3 < (p0.length : Int))) = true then
    (idx p0 n3).bind fun x5 =>
    (idx p0 n3).bind fun x6 =>
    ref02_Disputed_L2 rec1 F p0 p1 l2 n3 x5 x6 F false 0
  else
  some (l2, 0)
def ref02_Disputed_L1 (F : Nat) (p0 : List GStamp) (p1 : List Int) : Nat → (List GIdentity) → Int → Option (List GIdentity × Int)
  | 0 => fun _ _ => .none
  | n + 1 => ref02_Disputed_L1_B F p0 p1 (ref02_Disputed_L1 F p0 p1 n)
def ref02_Disputed (F : Nat) (p0 : List GStamp) (p1 : List Int) : Option (List GIdentity × Int) :=
  if ((p1.length : Int) != (p0.length : Int)) = true then
    some ([], 1)
  else
  ref02_Disputed_L1 F p0 p1 F ([] : List GIdentity) 0
def law02_StampDisputes_L1_B (F : Nat) (r6 : List GIdentity × Int) (r7 : List GIdentity × Int) (rec1 : Int → Option Bool) (n11 : Int) : Option Bool :=
  if (decide (n11 < (r6.1.length : Int))) = true then
    (idx r6.1 n11).bind fun x13 =>
    (idx r7.1 n11).bind fun x14 =>
    if (!(decide (x13 = x14))) = true then
      some false
    else
    rec1 (i64 (n11 + 1))
  else
  (law02_awake F).bind fun r16 =>
  some r16
def law02_StampDisputes_L1 (F : Nat) (r6 : List GIdentity × Int) (r7 : List GIdentity × Int) : Nat → Int → Option Bool
  | 0 => fun _ => .none
  | n + 1 => law02_StampDisputes_L1_B F r6 r7 (law02_StampDisputes_L1 F r6 r7 n)
def law02_StampDisputes_L2_B (F : Nat) (r17 : List GIdentity × Int) (r18 : List GIdentity × Int) (rec2 : Int → Option Bool) (n22 : Int) : Option Bool :=
  if (decide (n22 < (r17.1.length : Int))) = true then
    (idx r17.1 n22).bind fun x24 =>
    (idx r18.1 n22).bind fun x25 =>
    if (!(decide (x24 = x25))) = true then
      some false
    else
    rec2 (i64 (n22 + 1))
  else
  (law02_awake F).bind fun r27 =>
  some r27
def law02_StampDisputes_L2 (F : Nat) (r17 : List GIdentity × Int) (r18 : List GIdentity × Int) : Nat → Int → Option Bool
  | 0 => fun _ => .none
  | n + 1 => law02_StampDisputes_L2_B F r17 r18 (law02_StampDisputes_L2 F r17 r18 n)
def law02_StampDisputes (F : Nat) (p0 : List Int) : Option Bool :=
  (make_New p0).bind fun r1 =>
  (law02_events F r1 14 6).bind fun r2 =>
  (GTape_One r2.2.2 10).bind fun r3 =>
  if r3.1 = true then
    (app r2.2.1 [0]).bind fun v5 =>
    (stamp_Disputed F r2.1 v5).bind fun r6 =>
    (ref02_Disputed F r2.1 v5).bind fun r7 =>
    if (((r6.1.length : Int) != (r7.1.length : Int)) || (r6.2 != r7.2)) = true then
      some false
    else
    law02_StampDisputes_L1 F r6 r7 F 0
  else
  (stamp_Disputed F r2.1 r2.2.1).bind fun r17 =>
  (ref02_Disputed F r2.1 r2.2.1).bind fun r18 =>
  if (((r17.1.length : Int) != (r18.1.length : Int)) || (r17.2 != r18.2)) = true then
    some false
  else
  law02_StampDisputes_L2 F r17 r18 F 0
def law02_StampGrows_L3_B (rec1 : Int → Option Bool) (r2 : List GStamp × List Int × GTape) (r4 : List Int × Int) (r6 : List GIdentity × Int) (n11 : Int) (rec3 : Bool → Int → Option Bool) (b27 : Bool) (n28 : Int) : Option Bool :=
  if (decide (n28 < (r6.1.length : Int))) = true then
    (if b27 = true then some true else (idx r6.1 n28).bind fun x33 => (idx r4.1 n11).bind fun x34 => (idx r2.1 x34).bind fun x35 => (idx r4.1 n11).bind fun x36 => (idx r2.1 x36).bind fun x37 => some (decide (x33 = (GIdentity.mk x35.Source x37.Seq)))).bind fun w31 =>
    rec3 w31 (i64 (n28 + 1))
  else
  if (!b27) = true then
    some false
  else
  rec1 (i64 (n11 + 1))
def law02_StampGrows_L3 (rec1 : Int → Option Bool) (r2 : List GStamp × List Int × GTape) (r4 : List Int × Int) (r6 : List GIdentity × Int) (n11 : Int) : Nat → Bool → Int → Option Bool
  | 0 => fun _ _ => .none
  | n + 1 => law02_StampGrows_L3_B rec1 r2 r4 r6 n11 (law02_StampGrows_L3 rec1 r2 r4 r6 n11 n)
def law02_StampGrows_L2_B (rec1 : Int → Option Bool) (F : Nat) (r2 : List GStamp × List Int × GTape) (r4 : List Int × Int) (r5 : List Int × Int) (r6 : List GIdentity × Int) (n11 : Int) (rec2 : Bool → Int → Option Bool) (b19 : Bool) (n20 : Int) : Option Bool :=
  if (decide (n20 < (r5.1.length : Int))) = true then
    (if b19 = true then some true else (idx r4.1 n11).bind fun x25 => (idx r5.1 n20).bind fun x26 => some (x25 == x26)).bind fun w23 =>
    rec2 w23 (i64 (n20 + 1))
  else
  law02_StampGrows_L3 rec1 r2 r4 r6 n11 F b19 0
def law02_StampGrows_L2 (rec1 : Int → Option Bool) (F : Nat) (r2 : List GStamp × List Int × GTape) (r4 : List Int × Int) (r5 : List Int × Int) (r6 : List GIdentity × Int) (n11 : Int) : Nat → Bool → Int → Option Bool
  | 0 => fun _ _ => .none
  | n + 1 => law02_StampGrows_L2_B rec1 F r2 r4 r5 r6 n11 (law02_StampGrows_L2 rec1 F r2 r4 r5 r6 n11 n)
def law02_StampGrows_L1_B (F : Nat) (r2 : List GStamp × List Int × GTape) (r4 : List Int × Int) (r5 : List Int × Int) (r6 : List GIdentity × Int) (rec1 : Int → Option Bool) (n11 : Int) : Option Bool :=
  if (decide (n11 < (r4.1.length : Int))) = true then
    ((idx r4.1 n11).bind fun x15 => if (decide (x15 < 0)) = true then some true else (idx r4.1 n11).bind fun x17 => some (decide (x17 ≥ (r2.1.length : Int)))).bind fun w14 =>
    if w14 = true then
      some false
    else
    law02_StampGrows_L2 rec1 F r2 r4 r5 r6 n11 F false 0
  else
  (law02_awake F).bind fun r39 =>
  some r39
def law02_StampGrows_L1 (F : Nat) (r2 : List GStamp × List Int × GTape) (r4 : List Int × Int) (r5 : List Int × Int) (r6 : List GIdentity × Int) : Nat → Int → Option Bool
  | 0 => fun _ => .none
  | n + 1 => law02_StampGrows_L1_B F r2 r4 r5 r6 (law02_StampGrows_L1 F r2 r4 r5 r6 n)
def law02_StampGrows (F : Nat) (p0 : List Int) : Option Bool :=
  (make_New p0).bind fun r1 =>
  (law02_events F r1 12 8).bind fun r2 =>
  (GTape_Range r2.2.2 0 (r2.1.length : Int)).bind fun r3 =>
  (stamp_Known F r2.1 r2.2.1 r3.1).bind fun r4 =>
  (stamp_Canonical F r2.1 r2.2.1).bind fun r5 =>
  (stamp_Disputed F r2.1 r2.2.1).bind fun r6 =>
  if ((r4.2 != 0) || ((r5.2 != 0) || (r6.2 != 0))) = true then
    some false
  else
  law02_StampGrows_L1 F r2 r4 r5 r6 F 0
end
end Go.Sh
