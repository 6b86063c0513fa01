/- The plain functions: what the Go code computes, printed by program (gen.py). -/
import Derived.Test.YtkkhmngmhckgbaaLn
import Derived.Test.YtkkhmngmhckgbaaLw
set_option linter.unusedVariables false
set_option linter.unusedSimpArgs false
set_option maxRecDepth 100000
namespace Go.Sh
open Go.L
noncomputable section
structure GTape where
  L : List Int
  At : Int
  deriving DecidableEq, Inhabited
def GTape.lv (x : GTape) : LV := .agg [(lvl 1 (LV.int .i64)) x.L, LV.int .i64 x.At]
theorem GTape.ok : OkF 2 GTape.lv := fun _ => ⟨rfl, rfl, rfl⟩
structure GStamp where
  Time : Int
  Source : Int
  Seq : Int
  deriving DecidableEq, Inhabited
def GStamp.lv (x : GStamp) : LV := .agg [LV.int .i64 x.Time, LV.int .i64 x.Source, LV.int .i64 x.Seq]
theorem GStamp.ok : OkF 3 GStamp.lv := fun _ => ⟨rfl, rfl, rfl⟩
structure GEntry where
  Candidate : Int
  Centre : Int
  Paper : Int
  deriving DecidableEq, Inhabited
def GEntry.lv (x : GEntry) : LV := .agg [LV.int .i64 x.Candidate, LV.int .i64 x.Centre, LV.int .i64 x.Paper]
theorem GEntry.ok : OkF 3 GEntry.lv := fun _ => ⟨rfl, rfl, rfl⟩
structure GEntryEvent where
  Stamp : GStamp
  Kind : Int
  Entry : GEntry
  To : Int
  deriving DecidableEq, Inhabited
def GEntryEvent.lv (x : GEntryEvent) : LV := .agg [LV.int .i64 x.Stamp.Time, LV.int .i64 x.Stamp.Source, LV.int .i64 x.Stamp.Seq, LV.int .i64 x.Kind, LV.int .i64 x.Entry.Candidate, LV.int .i64 x.Entry.Centre, LV.int .i64 x.Entry.Paper, LV.int .i64 x.To]
theorem GEntryEvent.ok : OkF 8 GEntryEvent.lv := fun _ => ⟨rfl, rfl, rfl⟩
structure GDeadlines where
  Close : Int
  Late : Int
  deriving DecidableEq, Inhabited
def GDeadlines.lv (x : GDeadlines) : LV := .agg [LV.int .i64 x.Close, LV.int .i64 x.Late]
theorem GDeadlines.ok : OkF 2 GDeadlines.lv := fun _ => ⟨rfl, rfl, rfl⟩
structure GEnrolment where
  Entry : GEntry
  Late : Bool
  deriving DecidableEq, Inhabited
def GEnrolment.lv (x : GEnrolment) : LV := .agg [LV.int .i64 x.Entry.Candidate, LV.int .i64 x.Entry.Centre, LV.int .i64 x.Entry.Paper, LV.bool x.Late]
theorem GEnrolment.ok : OkF 4 GEnrolment.lv := fun _ => ⟨rfl, rfl, rfl⟩
structure GIdentity where
  Source : Int
  Seq : Int
  deriving DecidableEq, Inhabited
def GIdentity.lv (x : GIdentity) : LV := .agg [LV.int .i64 x.Source, LV.int .i64 x.Seq]
theorem GIdentity.ok : OkF 2 GIdentity.lv := fun _ => ⟨rfl, rfl, rfl⟩
structure GRefusal where
  Event : GIdentity
  Code : Int
  deriving DecidableEq, Inhabited
def GRefusal.lv (x : GRefusal) : LV := .agg [LV.int .i64 x.Event.Source, LV.int .i64 x.Event.Seq, LV.int .i64 x.Code]
theorem GRefusal.ok : OkF 3 GRefusal.lv := fun _ => ⟨rfl, rfl, rfl⟩
structure stamp_group where
  first : Int
  disputed : Bool
  deriving DecidableEq, Inhabited
def stamp_group.lv (x : stamp_group) : LV := .agg [LV.int .i64 x.first, LV.bool x.disputed]
theorem stamp_group.ok : OkF 2 stamp_group.lv := fun _ => ⟨rfl, rfl, rfl⟩
def make_New (p0 : List Int) : Option GTape :=
  if (decide ((p0.length : Int) > 600)) = true then
    (slc p0 0 600).bind fun v2 =>
    some (GTape.mk v2 0)
  else
  some (GTape.mk p0 0)
def GTape_Raw (p0 : GTape) : Option (Int × GTape) :=
  if (decide (p0.At ≥ (p0.L.length : Int))) = true then
    some (0, p0)
  else
  (idx p0.L (i64 ((i64 (p0.At + 1)) - 1))).bind fun x2 =>
  some (x2, (GTape.mk p0.L (i64 (p0.At + 1))))
def make_Cut (p0 : Int) (p1 : Int) : Option Int :=
  if (decide (p1 < 1)) = true then
    some 0
  else
  (rmd p0 p1).bind fun v2 =>
  if (decide (v2 < 0)) = true then
    some (i64 (v2 + p1))
  else
  some v2
def GTape_Next (p0 : GTape) (p1 : Int) : Option (Int × GTape) :=
  (GTape_Raw p0).bind fun r1 =>
  (make_Cut r1.1 p1).bind fun r2 =>
  some (r2, r1.2)
def GTape_Range (p0 : GTape) (p1 : Int) (p2 : Int) : Option (Int × GTape) :=
  (GTape_Next p0 (i64 ((i64 (p2 - p1)) + 1))).bind fun r1 =>
  some ((i64 (p1 + r1.1)), r1.2)
def GTape_Pick (p0 : GTape) (p1 : List Int) : Option (Int × GTape) :=
  (GTape_Next p0 (p1.length : Int)).bind fun r1 =>
  (idx p1 r1.1).bind fun x2 =>
  some (x2, r1.2)
def GTape_One (p0 : GTape) (p1 : Int) : Option (Bool × GTape) :=
  (GTape_Next p0 p1).bind fun r1 =>
  some ((r1.1 == (i64 (p1 - 1))), r1.2)
def GTape_Wild (p0 : GTape) : Option (Int × GTape) :=
  (GTape_Pick p0 [(-1), 0, 1, 2, 31, 32, 99, 100, 200, 201, 9999, 10000, 1000000, 1000001, 1152921504606846976, 1152921504606846977, (-1152921504606846976), 9223372036854775807, (-9223372036854775808)]).bind fun r1 =>
  some (r1.1, r1.2)
def GTape_Stamp (p0 : GTape) (p1 : Int) : Option (GStamp × GTape) :=
  (GTape_Range p0 0 24).bind fun r1 =>
  (GTape_Range r1.2 0 3).bind fun r2 =>
  (GTape_Range r2.2 0 9).bind fun r3 =>
  (if (decide (p1 > 0)) = true then (GTape_One r3.2 p1).bind fun r9 => some (r9.1, r9.2.L, r9.2.At) else some (false, r3.2.L, r3.2.At)).bind fun w7 =>
  if w7.1 = true then
    (GTape_Next (GTape.mk w7.2.1 w7.2.2) 3).bind fun r11 =>
    if (r11.1 == 0) = true then
      (GTape_Wild r11.2).bind fun r13 =>
      some ((GStamp.mk r13.1 r2.1 r3.1), r13.2)
    else
    if (r11.1 == 1) = true then
      (GTape_Wild r11.2).bind fun r15 =>
      some ((GStamp.mk r1.1 r15.1 r3.1), r15.2)
    else
    (GTape_Wild r11.2).bind fun r16 =>
    some ((GStamp.mk r1.1 r2.1 r16.1), r16.2)
  else
  some ((GStamp.mk r1.1 r2.1 r3.1), (GTape.mk w7.2.1 w7.2.2))
def GTape_EntryEvents_J4 (rec1 : Int → (List Int) → Int → (List GEntryEvent) → Option (List GEntryEvent × GTape)) (n2 : Int) (l5 : List GEntryEvent) (n18 : Int) (n19 : Int) (n20 : Int) (n21 : Int) (n22 : Int) (n23 : Int) (n24 : Int) (n25 : Int) (l26 : List Int) (n27 : Int) : Option (List GEntryEvent × GTape) :=
  (app l5 [(GEntryEvent.mk (GStamp.mk n18 n19 n20) n21 (GEntry.mk n22 n23 n24) n25)]).bind fun v28 =>
  (GTape_One (GTape.mk l26 n27) 8).bind fun r29 =>
  if r29.1 = true then
    (GTape_Next r29.2 (v28.length : Int)).bind fun r31 =>
    (idx v28 r31.1).bind fun x32 =>
    (app v28 [x32]).bind fun v33 =>
    rec1 (i64 (n2 - 1)) r31.2.L r31.2.At v33
  else
  rec1 (i64 (n2 - 1)) r29.2.L r29.2.At v28
def GTape_EntryEvents_J3 (rec1 : Int → (List Int) → Int → (List GEntryEvent) → Option (List GEntryEvent × GTape)) (p2 : Int) (n2 : Int) (l5 : List GEntryEvent) (r7 : Int × GTape) (r8 : Int × GTape) (r9 : Int × GTape) (r10 : Int × GTape) (r11 : Int × GTape) (n14 : Int) (l15 : List Int) (n16 : Int) (n17 : Int) : Option (List GEntryEvent × GTape) :=
  (if (decide (p2 > 0)) = true then (GTape_One (GTape.mk l15 n16) p2).bind fun r39 => some (r39.1, r39.2.L, r39.2.At) else some (false, l15, n16)).bind fun w37 =>
  if w37.1 = true then
    (GTape_Next (GTape.mk w37.2.1 w37.2.2) 6).bind fun r41 =>
    if (r41.1 == 0) = true then
      (GTape_Range r41.2 (-1) 4).bind fun r43 =>
      GTape_EntryEvents_J4 rec1 n2 l5 r8.1 n14 (l5.length : Int) r43.1 r10.1 r7.1 r11.1 n17 r43.2.L r43.2.At
    else
    if (r41.1 == 1) = true then
      (GTape_Wild r41.2).bind fun r45 =>
      GTape_EntryEvents_J4 rec1 n2 l5 r8.1 n14 (l5.length : Int) r9.1 r45.1 r7.1 r11.1 n17 r45.2.L r45.2.At
    else
    if (r41.1 == 2) = true then
      (GTape_Pick r41.2 [0, 1, 99, 100]).bind fun r47 =>
      GTape_EntryEvents_J4 rec1 n2 l5 r8.1 n14 (l5.length : Int) r9.1 r10.1 r47.1 r11.1 n17 r47.2.L r47.2.At
    else
    if (r41.1 == 3) = true then
      (GTape_Pick r41.2 [(-1), 31, 32]).bind fun r49 =>
      GTape_EntryEvents_J4 rec1 n2 l5 r8.1 n14 (l5.length : Int) r9.1 r10.1 r7.1 r49.1 n17 r49.2.L r49.2.At
    else
    if (r41.1 == 4) = true then
      (GTape_Stamp r41.2 4).bind fun r51 =>
      GTape_EntryEvents_J4 rec1 n2 l5 r51.1.Time r51.1.Source r51.1.Seq r9.1 r10.1 r7.1 r11.1 n17 r51.2.L r51.2.At
    else
    (GTape_Pick r41.2 [0, 99, 100, r7.1]).bind fun r52 =>
    GTape_EntryEvents_J4 rec1 n2 l5 r8.1 n14 (l5.length : Int) r9.1 r10.1 r7.1 r11.1 r52.1 r52.2.L r52.2.At
  else
  GTape_EntryEvents_J4 rec1 n2 l5 r8.1 n14 (l5.length : Int) r9.1 r10.1 r7.1 r11.1 n17 w37.2.1 w37.2.2
def GTape_EntryEvents_J2 (rec1 : Int → (List Int) → Int → (List GEntryEvent) → Option (List GEntryEvent × GTape)) (p2 : Int) (n2 : Int) (l5 : List GEntryEvent) (r7 : Int × GTape) (r8 : Int × GTape) (r9 : Int × GTape) (r10 : Int × GTape) (r11 : Int × GTape) (l12 : List Int) (n13 : Int) (n14 : Int) : Option (List GEntryEvent × GTape) :=
  if (r9.1 == 3) = true then
    (GTape_Next (GTape.mk l12 n13) 2).bind fun r54 =>
    (make_Cut (i64 (r7.1 + r54.1)) 3).bind fun r55 =>
    GTape_EntryEvents_J3 rec1 p2 n2 l5 r7 r8 r9 r10 r11 n14 r54.2.L r54.2.At (i64 (1 + r55))
  else
  GTape_EntryEvents_J3 rec1 p2 n2 l5 r7 r8 r9 r10 r11 n14 l12 n13 0
def GTape_EntryEvents_L1_B (p2 : Int) (rec1 : Int → (List Int) → Int → (List GEntryEvent) → Option (List GEntryEvent × GTape)) (n2 : Int) (l3 : List Int) (n4 : Int) (l5 : List GEntryEvent) : Option (List GEntryEvent × GTape) :=
  if (decide (n2 > 0)) = true then
    (GTape_Range (GTape.mk l3 n4) 1 3).bind fun r7 =>
    (GTape_Range r7.2 0 24).bind fun r8 =>
    (GTape_Pick r8.2 [1, 1, 1, 2, 3]).bind fun r9 =>
    (GTape_Next r9.2 4).bind fun r10 =>
    (GTape_Next r10.2 2).bind fun r11 =>
    (GTape_One r11.2 6).bind fun r56 =>
    if r56.1 = true then
      GTape_EntryEvents_J2 rec1 p2 n2 l5 r7 r8 r9 r10 r11 r56.2.L r56.2.At 0
    else
    GTape_EntryEvents_J2 rec1 p2 n2 l5 r7 r8 r9 r10 r11 r56.2.L r56.2.At r7.1
  else
  some (l5, (GTape.mk l3 n4))
def GTape_EntryEvents_L1 (p2 : Int) : Nat → Int → (List Int) → Int → (List GEntryEvent) → Option (List GEntryEvent × GTape)
  | 0 => fun _ _ _ _ => .none
  | n + 1 => GTape_EntryEvents_L1_B p2 (GTape_EntryEvents_L1 p2 n)
def GTape_EntryEvents (F : Nat) (p0 : GTape) (p1 : Int) (p2 : Int) : Option (List GEntryEvent × GTape) :=
  (GTape_Range p0 0 p1).bind fun r1 =>
  GTape_EntryEvents_L1 p2 F r1.1 r1.2.L r1.2.At ([] : List GEntryEvent)
def copies_Split_EntryEvent_L1_B (p0 : List GEntryEvent) (p1 : (GEntryEvent → Option GStamp)) (p2 : (GEntryEvent → GEntryEvent → Option Bool)) (rec1 : Int → (List GStamp) → (List Int) → (List (GStamp × Int)) → Option (List GStamp × List Int)) (n3 : Int) (l4 : List GStamp) (l5 : List Int) (m6 : List (GStamp × Int)) : Option (List GStamp × List Int) :=
  if (decide (n3 < (p0.length : Int))) = true then
    (idx p0 n3).bind fun x8 =>
    (p1 x8).bind fun r9 =>
    (idx l4 n3).bind fun x10 =>
    (idx (l4.set n3.toNat r9) n3).bind fun x11 =>
    if (!((mget m6 x11).isSome)) = true then
      (idx (l4.set n3.toNat r9) n3).bind fun x13 =>
      rec1 (i64 (n3 + 1)) (l4.set n3.toNat r9) l5 (mput m6 x13 n3)
    else
    (idx p0 ((mget m6 x11).getD 0)).bind fun x14 =>
    (p2 x14 x8).bind fun r15 =>
    if (!r15) = true then
      (idx l5 n3).bind fun x17 =>
      rec1 (i64 (n3 + 1)) (l4.set n3.toNat r9) (l5.set n3.toNat 1) m6
    else
    rec1 (i64 (n3 + 1)) (l4.set n3.toNat r9) l5 m6
  else
  some (l4, l5)
def copies_Split_EntryEvent_L1 (p0 : List GEntryEvent) (p1 : (GEntryEvent → Option GStamp)) (p2 : (GEntryEvent → GEntryEvent → Option Bool)) : Nat → Int → (List GStamp) → (List Int) → (List (GStamp × Int)) → Option (List GStamp × List Int)
  | 0 => fun _ _ _ _ => .none
  | n + 1 => copies_Split_EntryEvent_L1_B p0 p1 p2 (copies_Split_EntryEvent_L1 p0 p1 p2 n)
def copies_Split_EntryEvent (F : Nat) (p0 : List GEntryEvent) (p1 : (GEntryEvent → Option GStamp)) (p2 : (GEntryEvent → GEntryEvent → Option Bool)) : Option (List GStamp × List Int) :=
  (mkl ((GStamp.mk 0 0 0) : GStamp) (p0.length : Int)).bind fun v1 =>
  (mkl (0 : Int) (p0.length : Int)).bind fun v2 =>
  copies_Split_EntryEvent_L1 p0 p1 p2 F 0 v1 v2 ([] : List (GStamp × Int))
def stamp_Valid (p0 : GStamp) : Option Bool :=
  some ((decide (p0.Time ≥ 0)) && ((decide (p0.Time ≤ 1000000)) && ((decide (p0.Source ≥ 0)) && ((decide (p0.Source ≤ 99)) && ((decide (p0.Seq ≥ 0)) && (decide (p0.Seq ≤ 9999)))))))
def cmp_isNaN_int (p0 : Int) : Option Bool :=
  some (p0 != p0)
def cmp_Compare_int (p0 : Int) (p1 : Int) : Option Int :=
  (cmp_isNaN_int p0).bind fun r1 =>
  (cmp_isNaN_int p1).bind fun r2 =>
  if r1 = true then
    if r2 = true then
      some 0
    else
    some (-1)
  else
  if r2 = true then
    some 1
  else
  if (decide (p0 < p1)) = true then
    some (-1)
  else
  if (decide (p0 > p1)) = true then
    some 1
  else
  some 0
def cmp_Or_int_L1_B (p0 : List Int) (rec1 : Int → Option Int) (n1 : Int) : Option Int :=
  if (decide (n1 < (p0.length : Int))) = true then
    (idx p0 n1).bind fun x3 =>
    if (x3 != 0) = true then
      some x3
    else
    rec1 (i64 (n1 + 1))
  else
  some 0
def cmp_Or_int_L1 (p0 : List Int) : Nat → Int → Option Int
  | 0 => fun _ => .none
  | n + 1 => cmp_Or_int_L1_B p0 (cmp_Or_int_L1 p0 n)
def cmp_Or_int (F : Nat) (p0 : List Int) : Option Int :=
  cmp_Or_int_L1 p0 F 0
def stamp_compareIdentity (F : Nat) (p0 : GStamp) (p1 : GStamp) : Option Int :=
  (cmp_Compare_int p0.Source p1.Source).bind fun r1 =>
  (cmp_Compare_int p0.Seq p1.Seq).bind fun r2 =>
  (cmp_Or_int F [r1, r2]).bind fun r3 =>
  some r3
def stamp_groups_1 (F : Nat) (p0 : Int) (p1 : Int) (c0 : List GStamp) : Option Int :=
  (idx c0 p0).bind fun x1 =>
  (idx c0 p1).bind fun x2 =>
  (stamp_compareIdentity F x1 x2).bind fun r3 =>
  (cmp_Compare_int p0 p1).bind fun r4 =>
  (cmp_Or_int F [r3, r4]).bind fun r5 =>
  some r5
def stamp_groups_L2_B (F : Nat) (p0 : List GStamp) (p1 : List Int) (l8 : List Int) (rec2 : Int → (List stamp_group) → Option (List stamp_group)) (n9 : Int) (l10 : List stamp_group) : Option (List stamp_group) :=
  if (decide (n9 < (l8.length : Int))) = true then
    (idx l8 n9).bind fun x12 =>
    (if (decide ((i64 ((l10.length : Int) - 1)) < 0)) = true then some true else (idx l10 (i64 ((l10.length : Int) - 1))).bind fun x16 => (idx p0 x16.first).bind fun x17 => (idx p0 x12).bind fun x18 => (stamp_compareIdentity F x17 x18).bind fun r19 => some (r19 != 0)).bind fun w14 =>
    if w14 = true then
      (app l10 [(stamp_group.mk x12 false)]).bind fun v21 =>
      rec2 (i64 (n9 + 1)) v21
    else
    (idx l10 (i64 ((l10.length : Int) - 1))).bind fun x22 =>
    ((idx p0 x22.first).bind fun x25 => (idx p0 x12).bind fun x26 => if (!(decide (x25 = x26))) = true then some true else (idx p1 x22.first).bind fun x28 => (idx p1 x12).bind fun x29 => some (x28 != x29)).bind fun w24 =>
    if w24 = true then
      (idx l10 (i64 ((l10.length : Int) - 1))).bind fun x31 =>
      rec2 (i64 (n9 + 1)) (l10.set ((i64 ((l10.length : Int) - 1)).toNat) (stamp_group.mk x31.first true))
    else
    rec2 (i64 (n9 + 1)) l10
  else
  some l10
def stamp_groups_L2 (F : Nat) (p0 : List GStamp) (p1 : List Int) (l8 : List Int) : Nat → Int → (List stamp_group) → Option (List stamp_group)
  | 0 => fun _ _ => .none
  | n + 1 => stamp_groups_L2_B F p0 p1 l8 (stamp_groups_L2 F p0 p1 l8 n)
def stamp_groups_L1_B (F : Nat) (p0 : List GStamp) (p1 : List Int) (rec1 : Int → (List Int) → Option (List stamp_group)) (n1 : Int) (l2 : List Int) : Option (List stamp_group) :=
  if (decide (n1 < (p0.length : Int))) = true then
    (idx p0 n1).bind fun x4 =>
    (stamp_Valid x4).bind fun r5 =>
    if r5 = true then
      (app l2 [n1]).bind fun v7 =>
      rec1 (i64 (n1 + 1)) v7
    else
    rec1 (i64 (n1 + 1)) l2
  else
  (sortF (fun a0 a1 => stamp_groups_1 F a0 a1 p0) l2).bind fun l8 =>
  stamp_groups_L2 F p0 p1 l8 F 0 ([] : List stamp_group)
def stamp_groups_L1 (F : Nat) (p0 : List GStamp) (p1 : List Int) : Nat → Int → (List Int) → Option (List stamp_group)
  | 0 => fun _ _ => .none
  | n + 1 => stamp_groups_L1_B F p0 p1 (stamp_groups_L1 F p0 p1 n)
def stamp_groups (F : Nat) (p0 : List GStamp) (p1 : List Int) : Option (List stamp_group) :=
  stamp_groups_L1 F p0 p1 F 0 ([] : List Int)
def stamp_Compare (F : Nat) (p0 : GStamp) (p1 : GStamp) : Option Int :=
  (cmp_Compare_int p0.Time p1.Time).bind fun r1 =>
  (cmp_Compare_int p0.Source p1.Source).bind fun r2 =>
  (cmp_Compare_int p0.Seq p1.Seq).bind fun r3 =>
  (cmp_Or_int F [r1, r2, r3]).bind fun r4 =>
  some r4
def stamp_Canonical_1 (F : Nat) (p0 : Int) (p1 : Int) (c0 : List GStamp) : Option Int :=
  (idx c0 p0).bind fun x1 =>
  (idx c0 p1).bind fun x2 =>
  (stamp_Compare F x1 x2).bind fun r3 =>
  some r3
def stamp_Canonical_L1_B (F : Nat) (p0 : List GStamp) (r2 : List stamp_group) (rec1 : Int → (List Int) → Option (List Int × Int)) (n3 : Int) (l4 : List Int) : Option (List Int × Int) :=
  if (decide (n3 < (r2.length : Int))) = true then
    (idx r2 n3).bind fun x6 =>
    if (!x6.disputed) = true then
      (app l4 [x6.first]).bind fun v8 =>
      rec1 (i64 (n3 + 1)) v8
    else
    rec1 (i64 (n3 + 1)) l4
  else
  if (decide ((l4.length : Int) > 300)) = true then
    some ([], 3)
  else
  (sortF (fun a0 a1 => stamp_Canonical_1 F a0 a1 p0) l4).bind fun l10 =>
  some (l10, 0)
def stamp_Canonical_L1 (F : Nat) (p0 : List GStamp) (r2 : List stamp_group) : Nat → Int → (List Int) → Option (List Int × Int)
  | 0 => fun _ _ => .none
  | n + 1 => stamp_Canonical_L1_B F p0 r2 (stamp_Canonical_L1 F p0 r2 n)
def stamp_Canonical (F : Nat) (p0 : List GStamp) (p1 : List Int) : Option (List Int × Int) :=
  if ((p0.length : Int) != (p1.length : Int)) = true then
    some ([], 1)
  else
  (stamp_groups F p0 p1).bind fun r2 =>
  stamp_Canonical_L1 F p0 r2 F 0 ([] : List Int)
def copies_Canonical_EntryEvent (F : Nat) (p0 : List GEntryEvent) (p1 : (GEntryEvent → Option GStamp)) (p2 : (GEntryEvent → GEntryEvent → Option Bool)) : Option (List Int × Int) :=
  (copies_Split_EntryEvent F p0 p1 p2).bind fun r1 =>
  (stamp_Canonical F r1.1 r1.2).bind fun r2 =>
  some (r2.1, r2.2)
def entry_Canonical_1 (p0 : GEntryEvent) : Option GStamp :=
  some p0.Stamp
def entry_Same (p0 : GEntryEvent) (p1 : GEntryEvent) : Option Bool :=
  some (decide (p0 = p1))
def entry_Canonical_L1_B (p0 : List GEntryEvent) (r1 : List Int × Int) (rec1 : Int → (List GEntryEvent) → Option (List GEntryEvent × Int)) (n4 : Int) (l5 : List GEntryEvent) : Option (List GEntryEvent × Int) :=
  if (decide (n4 < (r1.1.length : Int))) = true then
    (idx r1.1 n4).bind fun x7 =>
    (idx p0 x7).bind fun x8 =>
    (idx l5 n4).bind fun x9 =>
    rec1 (i64 (n4 + 1)) (l5.set n4.toNat x8)
  else
  some (l5, 0)
def entry_Canonical_L1 (p0 : List GEntryEvent) (r1 : List Int × Int) : Nat → Int → (List GEntryEvent) → Option (List GEntryEvent × Int)
  | 0 => fun _ _ => .none
  | n + 1 => entry_Canonical_L1_B p0 r1 (entry_Canonical_L1 p0 r1 n)
def entry_Canonical (F : Nat) (p0 : List GEntryEvent) : Option (List GEntryEvent × Int) :=
  (copies_Canonical_EntryEvent F p0 (fun a0 => entry_Canonical_1 a0) (fun a0 a1 => entry_Same a0 a1)).bind fun r1 =>
  if (r1.2 != 0) = true then
    some ([], r1.2)
  else
  (mkl ((GEntryEvent.mk (GStamp.mk 0 0 0) 0 (GEntry.mk 0 0 0) 0) : GEntryEvent) (r1.1.length : Int)).bind fun v3 =>
  entry_Canonical_L1 p0 r1 F 0 v3
def ref02_Valid (p0 : GStamp) : Option Bool :=
  some ((decide (p0.Time ≥ 0)) && ((decide (p0.Time ≤ 1000000)) && ((decide (p0.Source ≥ 0)) && ((decide (p0.Source ≤ 99)) && ((decide (p0.Seq ≥ 0)) && (decide (p0.Seq ≤ 9999)))))))
def ref02_disputes (p0 : GStamp) (p1 : GStamp) (p2 : Int) (p3 : Int) : Option Bool :=
  some ((p0.Source == p1.Source) && ((p0.Seq == p1.Seq) && ((p0.Time != p1.Time) || (p2 != p3))))
def ref02_Counts_L1_B (p0 : List GStamp) (p1 : List Int) (p2 : Int) (rec1 : Int → Option Bool) (n4 : Int) : Option Bool :=
  if (decide (n4 < (p0.length : Int))) = true then
    ((idx p0 n4).bind fun x8 => (ref02_Valid x8).bind fun r9 => if r9 = true then (idx p0 p2).bind fun x11 => (idx p0 n4).bind fun x12 => (idx p1 p2).bind fun x13 => (idx p1 n4).bind fun x14 => (ref02_disputes x11 x12 x13 x14).bind fun r15 => if r15 = true then some true else if (decide (n4 < p2)) = true then (idx p0 n4).bind fun x18 => (idx p0 p2).bind fun x19 => some (decide (x18 = x19)) else some false else some false).bind fun w7 =>
    if w7 = true then
      some false
    else
    rec1 (i64 (n4 + 1))
  else
  some true
def ref02_Counts_L1 (p0 : List GStamp) (p1 : List Int) (p2 : Int) : Nat → Int → Option Bool
  | 0 => fun _ => .none
  | n + 1 => ref02_Counts_L1_B p0 p1 p2 (ref02_Counts_L1 p0 p1 p2 n)
def ref02_Counts (F : Nat) (p0 : List GStamp) (p1 : List Int) (p2 : Int) : Option Bool :=
  (idx p0 p2).bind fun x1 =>
  (ref02_Valid x1).bind fun r2 =>
  if (!r2) = true then
    some false
  else
  ref02_Counts_L1 p0 p1 p2 F 0
def ref02_order (p0 : Int) (p1 : Int) : Option Int :=
  if (decide (p0 < p1)) = true then
    some (-1)
  else
  if (decide (p0 > p1)) = true then
    some 1
  else
  some 0
def ref02_Compare (p0 : GStamp) (p1 : GStamp) : Option Int :=
  (ref02_order p0.Time p1.Time).bind fun r1 =>
  if (r1 == 0) = true then
    (ref02_order p0.Source p1.Source).bind fun r3 =>
    if (r3 == 0) = true then
      (ref02_order p0.Seq p1.Seq).bind fun r5 =>
      some r5
    else
    some r3
  else
  if (r1 == 0) = true then
    (ref02_order p0.Seq p1.Seq).bind fun r7 =>
    some r7
  else
  some r1
def ref02_Canonical_L2_B (rec1 : (List Int) → Int → Option (List Int × Int)) (p0 : List GStamp) (l2 : List Int) (n3 : Int) (rec2 : Int → Option (List Int × Int)) (n7 : Int) : Option (List Int × Int) :=
  (if (decide (n7 > 0)) = true then (idx l2 (i64 (n7 - 1))).bind fun x11 => (idx p0 x11).bind fun x12 => (idx p0 n3).bind fun x13 => (ref02_Compare x12 x13).bind fun r14 => some (decide (r14 > 0)) else some false).bind fun w9 =>
  if w9 = true then
    rec2 (i64 (n7 - 1))
  else
  (slc l2 0 n7).bind fun v16 =>
  (app [] v16).bind fun v17 =>
  (app v17 [n3]).bind fun v18 =>
  (slc l2 n7 (l2.length : Int)).bind fun v19 =>
  (app v18 v19).bind fun v20 =>
  rec1 v20 (i64 (n3 + 1))
def ref02_Canonical_L2 (rec1 : (List Int) → Int → Option (List Int × Int)) (p0 : List GStamp) (l2 : List Int) (n3 : Int) : Nat → Int → Option (List Int × Int)
  | 0 => fun _ => .none
  | n + 1 => ref02_Canonical_L2_B rec1 p0 l2 n3 (ref02_Canonical_L2 rec1 p0 l2 n3 n)
def ref02_Canonical_L1_B (F : Nat) (p0 : List GStamp) (p1 : List Int) (rec1 : (List Int) → Int → Option (List Int × Int)) (l2 : List Int) (n3 : Int) : Option (List Int × Int) :=
  if (decide (n3 < (p0.length : Int))) = true then
    (ref02_Counts F p0 p1 n3).bind fun r5 =>
    if (!r5) = true then
      rec1 l2 (i64 (n3 + 1))
    else
    ref02_Canonical_L2 rec1 p0 l2 n3 F (l2.length : Int)
  else
  if (decide ((l2.length : Int) > 300)) = true then
    some ([], 3)
  else
  some (l2, 0)
def ref02_Canonical_L1 (F : Nat) (p0 : List GStamp) (p1 : List Int) : Nat → (List Int) → Int → Option (List Int × Int)
  | 0 => fun _ _ => .none
  | n + 1 => ref02_Canonical_L1_B F p0 p1 (ref02_Canonical_L1 F p0 p1 n)
def ref02_Canonical (F : Nat) (p0 : List GStamp) (p1 : List Int) : Option (List Int × Int) :=
  if ((p1.length : Int) != (p0.length : Int)) = true then
    some ([], 1)
  else
  ref02_Canonical_L1 F p0 p1 F ([] : List Int) 0
def ref13_Canonical_L2_B (rec1 : Int → (List GStamp) → (List Int) → Option (List GEntryEvent × Int)) (p0 : List GEntryEvent) (n1 : Int) (l2 : List GStamp) (l3 : List Int) (rec2 : Int → Int → Option (List GEntryEvent × Int)) (n5 : Int) (n6 : Int) : Option (List GEntryEvent × Int) :=
  if (decide (n6 ≥ 0)) = true then
    (idx p0 n1).bind fun x8 =>
    (idx p0 n6).bind fun x9 =>
    if (decide (x8 = x9)) = true then
      rec2 n6 (i64 (n6 - 1))
    else
    rec2 n5 (i64 (n6 - 1))
  else
  (idx p0 n1).bind fun x11 =>
  (app l2 [x11.Stamp]).bind fun v12 =>
  (app l3 [n5]).bind fun v13 =>
  rec1 (i64 (n1 + 1)) v12 v13
def ref13_Canonical_L2 (rec1 : Int → (List GStamp) → (List Int) → Option (List GEntryEvent × Int)) (p0 : List GEntryEvent) (n1 : Int) (l2 : List GStamp) (l3 : List Int) : Nat → Int → Int → Option (List GEntryEvent × Int)
  | 0 => fun _ _ => .none
  | n + 1 => ref13_Canonical_L2_B rec1 p0 n1 l2 l3 (ref13_Canonical_L2 rec1 p0 n1 l2 l3 n)
def ref13_Canonical_L3_B (p0 : List GEntryEvent) (r14 : List Int × Int) (rec3 : Int → (List GEntryEvent) → Option (List GEntryEvent × Int)) (n16 : Int) (l17 : List GEntryEvent) : Option (List GEntryEvent × Int) :=
  if (decide (n16 < (r14.1.length : Int))) = true then
    (idx r14.1 n16).bind fun x19 =>
    (idx p0 x19).bind fun x20 =>
    (app l17 [x20]).bind fun v21 =>
    rec3 (i64 (n16 + 1)) v21
  else
  some (l17, 0)
def ref13_Canonical_L3 (p0 : List GEntryEvent) (r14 : List Int × Int) : Nat → Int → (List GEntryEvent) → Option (List GEntryEvent × Int)
  | 0 => fun _ _ => .none
  | n + 1 => ref13_Canonical_L3_B p0 r14 (ref13_Canonical_L3 p0 r14 n)
def ref13_Canonical_L1_B (F : Nat) (p0 : List GEntryEvent) (rec1 : Int → (List GStamp) → (List Int) → Option (List GEntryEvent × Int)) (n1 : Int) (l2 : List GStamp) (l3 : List Int) : Option (List GEntryEvent × Int) :=
  if (decide (n1 < (p0.length : Int))) = true then
    ref13_Canonical_L2 rec1 p0 n1 l2 l3 F n1 (i64 (n1 - 1))
  else
  (ref02_Canonical F l2 l3).bind fun r14 =>
  if (r14.2 != 0) = true then
    some ([], r14.2)
  else
  ref13_Canonical_L3 p0 r14 F 0 ([] : List GEntryEvent)
def ref13_Canonical_L1 (F : Nat) (p0 : List GEntryEvent) : Nat → Int → (List GStamp) → (List Int) → Option (List GEntryEvent × Int)
  | 0 => fun _ _ _ => .none
  | n + 1 => ref13_Canonical_L1_B F p0 (ref13_Canonical_L1 F p0 n)
def ref13_Canonical (F : Nat) (p0 : List GEntryEvent) : Option (List GEntryEvent × Int) :=
  ref13_Canonical_L1 F p0 F 0 ([] : List GStamp) ([] : List Int)
def entry_validDeadlines (p0 : GDeadlines) : Option Bool :=
  some ((decide (p0.Close ≥ 0)) && ((decide (p0.Close ≤ p0.Late)) && (decide (p0.Late ≤ 1000000))))
def entry_isCentre (p0 : Int) : Option Bool :=
  some ((decide (p0 ≥ 1)) && (decide (p0 ≤ 99)))
def entry_validEntry (p0 : GEntry) : Option Bool :=
  (if (decide (p0.Candidate ≥ 0)) = true then if (decide (p0.Candidate ≤ 9999)) = true then (entry_isCentre p0.Centre).bind fun r5 => if r5 = true then if (decide (p0.Paper ≥ 0)) = true then some (decide (p0.Paper ≤ 31)) else some false else some false else some false else some false).bind fun w2 =>
  some w2
def entry_validEvent_J1 (p0 : GEntryEvent) (b1 : Bool) : Option Bool :=
  if b1 = true then
    (entry_validEntry p0.Entry).bind fun r3 =>
    some r3
  else
  if (p0.Kind == 3) = true then
    ((entry_validEntry p0.Entry).bind fun r7 => if r7 = true then (entry_isCentre p0.To).bind fun r9 => if r9 = true then some (p0.To != p0.Entry.Centre) else some false else some false).bind fun w6 =>
    some w6
  else
  some false
def entry_validEvent (p0 : GEntryEvent) : Option Bool :=
  if (p0.Kind == 1) = true then
    entry_validEvent_J1 p0 (p0.Kind == 1)
  else
  entry_validEvent_J1 p0 (p0.Kind == 2)
def slices_BinarySearchFunc_Enrolment_Enrolment_Entry_L1_B (p0 : List GEnrolment) (p1 : GEntry) (p2 : (GEnrolment → GEntry → Option Int)) (rec1 : Int → Int → Option (Int × Bool)) (n1 : Int) (n2 : Int) : Option (Int × Bool) :=
  if (decide (n1 < n2)) = true then
    (idx p0 (i64 (shrI .u64 (IntKind.u64.wrap (i64 (n1 + n2))) 1))).bind fun x4 =>
    (p2 x4 p1).bind fun r5 =>
    if (decide (r5 < 0)) = true then
      rec1 (i64 ((i64 (shrI .u64 (IntKind.u64.wrap (i64 (n1 + n2))) 1)) + 1)) n2
    else
    rec1 n1 (i64 (shrI .u64 (IntKind.u64.wrap (i64 (n1 + n2))) 1))
  else
  (if (decide (n1 < (p0.length : Int))) = true then (idx p0 n1).bind fun x10 => (p2 x10 p1).bind fun r11 => some (r11 == 0) else some false).bind fun w8 =>
  some (n1, w8)
def slices_BinarySearchFunc_Enrolment_Enrolment_Entry_L1 (p0 : List GEnrolment) (p1 : GEntry) (p2 : (GEnrolment → GEntry → Option Int)) : Nat → Int → Int → Option (Int × Bool)
  | 0 => fun _ _ => .none
  | n + 1 => slices_BinarySearchFunc_Enrolment_Enrolment_Entry_L1_B p0 p1 p2 (slices_BinarySearchFunc_Enrolment_Enrolment_Entry_L1 p0 p1 p2 n)
def slices_BinarySearchFunc_Enrolment_Enrolment_Entry (F : Nat) (p0 : List GEnrolment) (p1 : GEntry) (p2 : (GEnrolment → GEntry → Option Int)) : Option (Int × Bool) :=
  slices_BinarySearchFunc_Enrolment_Enrolment_Entry_L1 p0 p1 p2 F 0 (p0.length : Int)
def entry_compare (F : Nat) (p0 : GEnrolment) (p1 : GEntry) : Option Int :=
  (cmp_Compare_int p0.Entry.Candidate p1.Candidate).bind fun r1 =>
  (cmp_Compare_int p0.Entry.Paper p1.Paper).bind fun r2 =>
  (cmp_Or_int F [r1, r2]).bind fun r3 =>
  some r3
def entry_step (F : Nat) (p0 : List GEnrolment) (p1 : GDeadlines) (p2 : GEntryEvent) : Option (List GEnrolment × Int) :=
  (entry_validEvent p2).bind fun r1 =>
  if (!r1) = true then
    some ([], 2)
  else
  if ((p2.Stamp.Source != 0) && (p2.Stamp.Source != p2.Entry.Centre)) = true then
    some ([], 28)
  else
  if (decide (p2.Stamp.Time > p1.Late)) = true then
    some ([], 27)
  else
  (slices_BinarySearchFunc_Enrolment_Enrolment_Entry F p0 p2.Entry (fun a0 a1 => entry_compare F a0 a1)).bind fun r7 =>
  (if r7.2 = true then (idx p0 r7.1).bind fun x11 => some (x11.Entry.Centre == p2.Entry.Centre) else some false).bind fun w9 =>
  (app [] p0).bind fun v12 =>
  if (p2.Kind == 1) = true then
    if w9 = true then
      some ([], 5)
    else
    if r7.2 = true then
      some ([], 9)
    else
    if (decide ((p0.length : Int) ≥ 300)) = true then
      some ([], 3)
    else
    (insF v12 r7.1 (GEnrolment.mk p2.Entry (decide (p2.Stamp.Time > p1.Close)))).bind fun v17 =>
    some (v17, 0)
  else
  if (!w9) = true then
    some ([], 4)
  else
  if (p2.Kind == 2) = true then
    (delF v12 r7.1 (i64 (r7.1 + 1))).bind fun v20 =>
    some (v20, 0)
  else
  (idx v12 r7.1).bind fun x21 =>
  some ((v12.set r7.1.toNat (GEnrolment.mk (GEntry.mk x21.Entry.Candidate p2.To x21.Entry.Paper) x21.Late)), 0)
def entry_Fold_L1_B (F : Nat) (p1 : GDeadlines) (p2 : Int) (r3 : List GEntryEvent × Int) (rec1 : (List GEnrolment) → Int → (List GRefusal) → Option (List GEnrolment × List GRefusal × Int)) (l5 : List GEnrolment) (n6 : Int) (l7 : List GRefusal) : Option (List GEnrolment × List GRefusal × Int) :=
  if (decide (n6 < (r3.1.length : Int))) = true then
    (idx r3.1 n6).bind fun x9 =>
    if (decide (x9.Stamp.Time > p2)) = true then
      some (l5, l7, 0)
    else
    (entry_step F l5 p1 x9).bind fun r11 =>
    if (r11.2 != 0) = true then
      (app l7 [(GRefusal.mk (GIdentity.mk x9.Stamp.Source x9.Stamp.Seq) r11.2)]).bind fun v13 =>
      rec1 l5 (i64 (n6 + 1)) v13
    else
    rec1 r11.1 (i64 (n6 + 1)) l7
  else
  some (l5, l7, 0)
def entry_Fold_L1 (F : Nat) (p1 : GDeadlines) (p2 : Int) (r3 : List GEntryEvent × Int) : Nat → (List GEnrolment) → Int → (List GRefusal) → Option (List GEnrolment × List GRefusal × Int)
  | 0 => fun _ _ _ => .none
  | n + 1 => entry_Fold_L1_B F p1 p2 r3 (entry_Fold_L1 F p1 p2 r3 n)
def entry_Fold (F : Nat) (p0 : List GEntryEvent) (p1 : GDeadlines) (p2 : Int) : Option (List GEnrolment × List GRefusal × Int) :=
  (entry_validDeadlines p1).bind fun r1 =>
  if (!r1) = true then
    some ([], [], 1)
  else
  (entry_Canonical F p0).bind fun r3 =>
  if (r3.2 != 0) = true then
    some ([], [], r3.2)
  else
  entry_Fold_L1 F p1 p2 r3 F ([] : List GEnrolment) 0 ([] : List GRefusal)
def law13_awake (F : Nat) : Option Bool :=
  (entry_Fold F [(GEntryEvent.mk (GStamp.mk 16 7 2) 1 (GEntry.mk 5 7 1) 0), (GEntryEvent.mk (GStamp.mk 8 7 0) 1 (GEntry.mk 5 7 1) 0), (GEntryEvent.mk (GStamp.mk 15 7 1) 3 (GEntry.mk 5 7 1) 9)] (GDeadlines.mk 10 20) 100).bind fun r1 =>
  (if (r1.2.2 == 0) = true then if ((r1.1.length : Int) == 1) = true then (idx r1.1 0).bind fun x6 => if (decide (x6 = (GEnrolment.mk (GEntry.mk 5 9 1) false))) = true then if ((r1.2.1.length : Int) == 1) = true then (idx r1.2.1 0).bind fun x9 => some (decide (x9 = (GRefusal.mk (GIdentity.mk 7 2) 9))) else some false else some false else some false else some false).bind fun w3 =>
  some w3
def law13_EntryCanonical_L1_B (F : Nat) (r2 : List GEntryEvent × GTape) (r3 : List GEntryEvent × Int) (r4 : List GEntryEvent × Int) (rec1 : Int → Option Bool) (n8 : Int) : Option Bool :=
  if (decide (n8 < (r3.1.length : Int))) = true then
    (idx r3.1 n8).bind fun x10 =>
    (idx r4.1 n8).bind fun x11 =>
    if (!(decide (x10 = x11))) = true then
      some false
    else
    rec1 (i64 (n8 + 1))
  else
  if (decide ((r2.1.length : Int) > 0)) = true then
    (GTape_Next r2.2 (r2.1.length : Int)).bind fun r14 =>
    (idx r2.1 r14.1).bind fun x15 =>
    (GTape_Next r14.2 (r2.1.length : Int)).bind fun r16 =>
    (idx r2.1 r16.1).bind fun x17 =>
    ((entry_Same x15 x17).bind fun r20 => if (r20 == (decide (x15 = x17))) = true then (entry_Same x15 x15).bind fun r22 => if r22 = true then (law13_awake F).bind fun r24 => some r24 else some false else some false).bind fun w19 =>
    some w19
  else
  (law13_awake F).bind fun r25 =>
  some r25
def law13_EntryCanonical_L1 (F : Nat) (r2 : List GEntryEvent × GTape) (r3 : List GEntryEvent × Int) (r4 : List GEntryEvent × Int) : Nat → Int → Option Bool
  | 0 => fun _ => .none
  | n + 1 => law13_EntryCanonical_L1_B F r2 r3 r4 (law13_EntryCanonical_L1 F r2 r3 r4 n)
def law13_EntryCanonical (F : Nat) (p0 : List Int) : Option Bool :=
  (make_New p0).bind fun r1 =>
  (GTape_EntryEvents F r1 12 4).bind fun r2 =>
  (entry_Canonical F r2.1).bind fun r3 =>
  (ref13_Canonical F r2.1).bind fun r4 =>
  if (((r3.1.length : Int) != (r4.1.length : Int)) || (r3.2 != r4.2)) = true then
    some false
  else
  law13_EntryCanonical_L1 F r2 r3 r4 F 0
def GTape_Deadlines (p0 : GTape) (p1 : Int) : Option (GDeadlines × GTape) :=
  (GTape_Range p0 4 14).bind fun r1 =>
  (GTape_Next r1.2 10).bind fun r2 =>
  (if (decide (p1 > 0)) = true then (GTape_One r2.2 p1).bind fun r8 => some (r8.1, r8.2.L, r8.2.At) else some (false, r2.2.L, r2.2.At)).bind fun w6 =>
  if w6.1 = true then
    (GTape_Wild (GTape.mk w6.2.1 w6.2.2)).bind fun r10 =>
    (GTape_Wild r10.2).bind fun r11 =>
    some ((GDeadlines.mk r10.1 r11.1), r11.2)
  else
  some ((GDeadlines.mk r1.1 (i64 (r1.1 + r2.1))), (GTape.mk w6.2.1 w6.2.2))
def ref13_Deadlines (p0 : GDeadlines) : Option Bool :=
  some ((decide (p0.Close ≥ 0)) && ((decide (p0.Close ≤ p0.Late)) && (decide (p0.Late ≤ 1000000))))
def ref13_Entry (p0 : GEntry) : Option Bool :=
  some ((decide (p0.Candidate ≥ 0)) && ((decide (p0.Candidate ≤ 9999)) && ((decide (p0.Centre ≥ 1)) && ((decide (p0.Centre ≤ 99)) && ((decide (p0.Paper ≥ 0)) && (decide (p0.Paper ≤ 31)))))))
def ref13_before (p0 : GEntry) (p1 : GEntry) : Option Bool :=
  some ((decide (p0.Candidate < p1.Candidate)) || ((p0.Candidate == p1.Candidate) && (decide (p0.Paper < p1.Paper))))
def ref13_Valid_L1_B (p0 : List GEnrolment) (rec1 : Int → Option Bool) (n2 : Int) : Option Bool :=
  if (decide (n2 < (p0.length : Int))) = true then
    ((idx p0 n2).bind fun x6 => (ref13_Entry x6.Entry).bind fun r7 => if (!r7) = true then some true else if (decide (n2 > 0)) = true then (idx p0 (i64 (n2 - 1))).bind fun x10 => (idx p0 n2).bind fun x11 => (ref13_before x10.Entry x11.Entry).bind fun r12 => some (!r12) else some false).bind fun w5 =>
    if w5 = true then
      some false
    else
    rec1 (i64 (n2 + 1))
  else
  some true
def ref13_Valid_L1 (p0 : List GEnrolment) : Nat → Int → Option Bool
  | 0 => fun _ => .none
  | n + 1 => ref13_Valid_L1_B p0 (ref13_Valid_L1 p0 n)
def ref13_Valid (F : Nat) (p0 : List GEnrolment) : Option Bool :=
  if (decide ((p0.length : Int) > 300)) = true then
    some false
  else
  ref13_Valid_L1 p0 F 0
def ref13_index_L1_B (p0 : List GEnrolment) (p1 : Int) (p2 : Int) (rec1 : Int → Option Int) (n1 : Int) : Option Int :=
  if (decide (n1 < (p0.length : Int))) = true then
    ((idx p0 n1).bind fun x5 => if (x5.Entry.Candidate == p1) = true then (idx p0 n1).bind fun x7 => some (x7.Entry.Paper == p2) else some false).bind fun w4 =>
    if w4 = true then
      some n1
    else
    rec1 (i64 (n1 + 1))
  else
  some (-1)
def ref13_index_L1 (p0 : List GEnrolment) (p1 : Int) (p2 : Int) : Nat → Int → Option Int
  | 0 => fun _ => .none
  | n + 1 => ref13_index_L1_B p0 p1 p2 (ref13_index_L1 p0 p1 p2 n)
def ref13_index (F : Nat) (p0 : List GEnrolment) (p1 : Int) (p2 : Int) : Option Int :=
  ref13_index_L1 p0 p1 p2 F 0
def ref13_add_L1_B (p0 : List GEnrolment) (p1 : GEnrolment) (rec1 : Int → Option (List GEnrolment)) (n1 : Int) : Option (List GEnrolment) :=
  (if (decide (n1 < (p0.length : Int))) = true then (idx p0 n1).bind fun x5 => (ref13_before x5.Entry p1.Entry).bind fun r6 => some r6 else some false).bind fun w3 =>
  if w3 = true then
    rec1 (i64 (n1 + 1))
  else
  (slc p0 0 n1).bind fun v8 =>
  (app [] v8).bind fun v9 =>
  (app v9 [p1]).bind fun v10 =>
  (slc p0 n1 (p0.length : Int)).bind fun v11 =>
  (app v10 v11).bind fun v12 =>
  some v12
def ref13_add_L1 (p0 : List GEnrolment) (p1 : GEnrolment) : Nat → Int → Option (List GEnrolment)
  | 0 => fun _ => .none
  | n + 1 => ref13_add_L1_B p0 p1 (ref13_add_L1 p0 p1 n)
def ref13_add (F : Nat) (p0 : List GEnrolment) (p1 : GEnrolment) : Option (List GEnrolment) :=
  ref13_add_L1 p0 p1 F 0
def ref13_without (p0 : List GEnrolment) (p1 : Int) : Option (List GEnrolment) :=
  (slc p0 0 p1).bind fun v1 =>
  (app [] v1).bind fun v2 =>
  (slc p0 (i64 (p1 + 1)) (p0.length : Int)).bind fun v3 =>
  (app v2 v3).bind fun v4 =>
  some v4
def ref13_Apply (F : Nat) (p0 : List GEnrolment) (p1 : GDeadlines) (p2 : GEntryEvent) : Option (List GEnrolment × Int) :=
  ((ref13_Valid F p0).bind fun r3 => if (!r3) = true then some true else (ref13_Deadlines p1).bind fun r5 => some (!r5)).bind fun w2 =>
  if w2 = true then
    some (([] : List GEnrolment), 1)
  else
  (if (p2.Kind != 1) = true then if (p2.Kind != 2) = true then if (p2.Kind != 3) = true then some true else (ref13_Entry p2.Entry).bind fun r12 => some (!r12) else (ref13_Entry p2.Entry).bind fun r13 => some (!r13) else (ref13_Entry p2.Entry).bind fun r14 => some (!r14)).bind fun w8 =>
  if w8 = true then
    some (([] : List GEnrolment), 2)
  else
  if ((p2.Kind == 3) && ((decide (p2.To < 1)) || ((decide (p2.To > 99)) || (p2.To == p2.Entry.Centre)))) = true then
    some (([] : List GEnrolment), 2)
  else
  if ((p2.Stamp.Source != 0) && (p2.Stamp.Source != p2.Entry.Centre)) = true then
    some (([] : List GEnrolment), 28)
  else
  if (decide (p2.Stamp.Time > p1.Late)) = true then
    some (([] : List GEnrolment), 27)
  else
  (ref13_index F p0 p2.Entry.Candidate p2.Entry.Paper).bind fun r25 =>
  if (p2.Kind == 1) = true then
    (if (decide (r25 ≥ 0)) = true then (idx p0 r25).bind fun x30 => some (x30.Entry.Centre == p2.Entry.Centre) else some false).bind fun w28 =>
    if w28 = true then
      some (([] : List GEnrolment), 5)
    else
    if (decide (r25 ≥ 0)) = true then
      some (([] : List GEnrolment), 9)
    else
    if ((p0.length : Int) == 300) = true then
      some (([] : List GEnrolment), 3)
    else
    (ref13_add F p0 (GEnrolment.mk p2.Entry (decide (p2.Stamp.Time > p1.Close)))).bind fun r34 =>
    some (r34, 0)
  else
  (if (decide (r25 < 0)) = true then some true else (idx p0 r25).bind fun x38 => some (x38.Entry.Centre != p2.Entry.Centre)).bind fun w36 =>
  if w36 = true then
    some (([] : List GEnrolment), 4)
  else
  if (p2.Kind == 2) = true then
    (ref13_without p0 r25).bind fun r41 =>
    some (r41, 0)
  else
  (idx p0 r25).bind fun x42 =>
  (ref13_without p0 r25).bind fun r43 =>
  (ref13_add F r43 (GEnrolment.mk (GEntry.mk x42.Entry.Candidate p2.To x42.Entry.Paper) x42.Late)).bind fun r44 =>
  some (r44, 0)
def ref13_Fold_L1_B (F : Nat) (p1 : GDeadlines) (p2 : Int) (r3 : List GEntryEvent × Int) (rec1 : Int → (List GRefusal) → (List GEnrolment) → Option (List GEnrolment × List GRefusal × Int)) (n5 : Int) (l6 : List GRefusal) (l7 : List GEnrolment) : Option (List GEnrolment × List GRefusal × Int) :=
  if (decide (n5 < (r3.1.length : Int))) = true then
    (idx r3.1 n5).bind fun x9 =>
    if (decide (x9.Stamp.Time > p2)) = true then
      rec1 (i64 (n5 + 1)) l6 l7
    else
    (idx r3.1 n5).bind fun x11 =>
    (ref13_Apply F l7 p1 x11).bind fun r12 =>
    if (r12.2 != 0) = true then
      (idx r3.1 n5).bind fun x14 =>
      (idx r3.1 n5).bind fun x15 =>
      (app l6 [(GRefusal.mk (GIdentity.mk x14.Stamp.Source x15.Stamp.Seq) r12.2)]).bind fun v16 =>
      rec1 (i64 (n5 + 1)) v16 l7
    else
    rec1 (i64 (n5 + 1)) l6 r12.1
  else
  some (l7, l6, 0)
def ref13_Fold_L1 (F : Nat) (p1 : GDeadlines) (p2 : Int) (r3 : List GEntryEvent × Int) : Nat → Int → (List GRefusal) → (List GEnrolment) → Option (List GEnrolment × List GRefusal × Int)
  | 0 => fun _ _ _ => .none
  | n + 1 => ref13_Fold_L1_B F p1 p2 r3 (ref13_Fold_L1 F p1 p2 r3 n)
def ref13_Fold (F : Nat) (p0 : List GEntryEvent) (p1 : GDeadlines) (p2 : Int) : Option (List GEnrolment × List GRefusal × Int) :=
  (ref13_Deadlines p1).bind fun r1 =>
  if (!r1) = true then
    some (([] : List GEnrolment), [], 1)
  else
  (ref13_Canonical F p0).bind fun r3 =>
  if (r3.2 != 0) = true then
    some (([] : List GEnrolment), [], r3.2)
  else
  ref13_Fold_L1 F p1 p2 r3 F 0 ([] : List GRefusal) ([] : List GEnrolment)
def law13_same_L1_B (p0 : List GEnrolment) (p1 : List GEnrolment) (rec1 : Int → Option Bool) (n2 : Int) : Option Bool :=
  if (decide (n2 < (p0.length : Int))) = true then
    (idx p0 n2).bind fun x4 =>
    (idx p1 n2).bind fun x5 =>
    if (!(decide (x4 = x5))) = true then
      some false
    else
    rec1 (i64 (n2 + 1))
  else
  some true
def law13_same_L1 (p0 : List GEnrolment) (p1 : List GEnrolment) : Nat → Int → Option Bool
  | 0 => fun _ => .none
  | n + 1 => law13_same_L1_B p0 p1 (law13_same_L1 p0 p1 n)
def law13_same (F : Nat) (p0 : List GEnrolment) (p1 : List GEnrolment) : Option Bool :=
  if ((p0.length : Int) != (p1.length : Int)) = true then
    some false
  else
  law13_same_L1 p0 p1 F 0
def law13_refusals_L1_B (p0 : List GRefusal) (p1 : List GRefusal) (rec1 : Int → Option Bool) (n2 : Int) : Option Bool :=
  if (decide (n2 < (p0.length : Int))) = true then
    (idx p0 n2).bind fun x4 =>
    (idx p1 n2).bind fun x5 =>
    if (!(decide (x4 = x5))) = true then
      some false
    else
    rec1 (i64 (n2 + 1))
  else
  some true
def law13_refusals_L1 (p0 : List GRefusal) (p1 : List GRefusal) : Nat → Int → Option Bool
  | 0 => fun _ => .none
  | n + 1 => law13_refusals_L1_B p0 p1 (law13_refusals_L1 p0 p1 n)
def law13_refusals (F : Nat) (p0 : List GRefusal) (p1 : List GRefusal) : Option Bool :=
  if ((p0.length : Int) != (p1.length : Int)) = true then
    some false
  else
  law13_refusals_L1 p0 p1 F 0
def law13_EntryFolds (F : Nat) (p0 : List Int) (p1 : Int) : Option Bool :=
  (make_New p0).bind fun r1 =>
  (GTape_Deadlines r1 12).bind fun r2 =>
  (GTape_EntryEvents F r2.2 14 5).bind fun r3 =>
  (GTape_Range r3.2 0 30).bind fun r4 =>
  (entry_Fold F r3.1 r2.1 p1).bind fun r5 =>
  (ref13_Fold F r3.1 r2.1 p1).bind fun r6 =>
  (entry_Fold F r3.1 r2.1 r4.1).bind fun r7 =>
  (ref13_Fold F r3.1 r2.1 r4.1).bind fun r8 =>
  ((law13_same F r5.1 r6.1).bind fun r11 => if r11 = true then (law13_refusals F r5.2.1 r6.2.1).bind fun r13 => if r13 = true then if (r5.2.2 == r6.2.2) = true then (law13_same F r7.1 r8.1).bind fun r16 => if r16 = true then (law13_refusals F r7.2.1 r8.2.1).bind fun r18 => if r18 = true then if (r7.2.2 == r8.2.2) = true then (law13_awake F).bind fun r21 => some r21 else some false else some false else some false else some false else some false else some false).bind fun w10 =>
  some w10
def GTape_Order_L1_B (p1 : Int) (rec1 : (List Int) → Int → (List Int) → Int → Option (List Int × GTape)) (l1 : List Int) (n2 : Int) (l3 : List Int) (n4 : Int) : Option (List Int × GTape) :=
  if (decide (n2 < p1)) = true then
    (GTape_Next (GTape.mk l3 n4) (i64 (n2 + 1))).bind fun r6 =>
    (slc l1 0 r6.1).bind fun v7 =>
    (app [] v7).bind fun v8 =>
    (app v8 [n2]).bind fun v9 =>
    (slc l1 r6.1 (l1.length : Int)).bind fun v10 =>
    (app v9 v10).bind fun v11 =>
    rec1 v11 (i64 (n2 + 1)) r6.2.L r6.2.At
  else
  some (l1, (GTape.mk l3 n4))
def GTape_Order_L1 (p1 : Int) : Nat → (List Int) → Int → (List Int) → Int → Option (List Int × GTape)
  | 0 => fun _ _ _ _ => .none
  | n + 1 => GTape_Order_L1_B p1 (GTape_Order_L1 p1 n)
def GTape_Order (F : Nat) (p0 : GTape) (p1 : Int) : Option (List Int × GTape) :=
  GTape_Order_L1 p1 F ([] : List Int) 0 p0.L p0.At
def GTape_Mixed_L1_B (p1 : Int) (rec1 : (List Int) → Int → (List Int) → Int → Option (List Int × GTape)) (l3 : List Int) (n4 : Int) (l5 : List Int) (n6 : Int) : Option (List Int × GTape) :=
  if ((decide (n4 > 0)) && (decide (p1 > 0))) = true then
    (GTape_Next (GTape.mk l5 n6) (i64 ((l3.length : Int) + 1))).bind fun r10 =>
    (GTape_Next r10.2 p1).bind fun r11 =>
    (slc l3 0 r10.1).bind fun v12 =>
    (app [] v12).bind fun v13 =>
    (app v13 [r11.1]).bind fun v14 =>
    (slc l3 r10.1 (l3.length : Int)).bind fun v15 =>
    (app v14 v15).bind fun v16 =>
    rec1 v16 (i64 (n4 - 1)) r11.2.L r11.2.At
  else
  some (l3, (GTape.mk l5 n6))
def GTape_Mixed_L1 (p1 : Int) : Nat → (List Int) → Int → (List Int) → Int → Option (List Int × GTape)
  | 0 => fun _ _ _ _ => .none
  | n + 1 => GTape_Mixed_L1_B p1 (GTape_Mixed_L1 p1 n)
def GTape_Mixed (F : Nat) (p0 : GTape) (p1 : Int) : Option (List Int × GTape) :=
  (GTape_Order F p0 p1).bind fun r1 =>
  (GTape_Next r1.2 4).bind fun r2 =>
  GTape_Mixed_L1 p1 F r1.1 r2.1 r2.2.L r2.2.At
def law13_EntryAnyOrder_L1_B (F : Nat) (r2 : GDeadlines × GTape) (r3 : List GEntryEvent × GTape) (r4 : List Int × GTape) (rec1 : Int → (List GEntryEvent) → Option Bool) (n5 : Int) (l6 : List GEntryEvent) : Option Bool :=
  if (decide (n5 < (r4.1.length : Int))) = true then
    (idx r4.1 n5).bind fun x8 =>
    (idx r3.1 x8).bind fun x9 =>
    (app l6 [x9]).bind fun v10 =>
    rec1 (i64 (n5 + 1)) v10
  else
  (entry_Fold F r3.1 r2.1 1000000).bind fun r11 =>
  (entry_Fold F l6 r2.1 1000000).bind fun r12 =>
  (if (r11.2.2 == 0) = true then if (r12.2.2 == 0) = true then (law13_same F r11.1 r12.1).bind fun r17 => if r17 = true then (law13_refusals F r11.2.1 r12.2.1).bind fun r19 => if r19 = true then (law13_awake F).bind fun r21 => some r21 else some false else some false else some false else some false).bind fun w14 =>
  some w14
def law13_EntryAnyOrder_L1 (F : Nat) (r2 : GDeadlines × GTape) (r3 : List GEntryEvent × GTape) (r4 : List Int × GTape) : Nat → Int → (List GEntryEvent) → Option Bool
  | 0 => fun _ _ => .none
  | n + 1 => law13_EntryAnyOrder_L1_B F r2 r3 r4 (law13_EntryAnyOrder_L1 F r2 r3 r4 n)
def law13_EntryAnyOrder (F : Nat) (p0 : List Int) : Option Bool :=
  (make_New p0).bind fun r1 =>
  (GTape_Deadlines r1 0).bind fun r2 =>
  (GTape_EntryEvents F r2.2 10 8).bind fun r3 =>
  (GTape_Mixed F r3.2 (r3.1.length : Int)).bind fun r4 =>
  law13_EntryAnyOrder_L1 F r2 r3 r4 F 0 ([] : List GEntryEvent)
def law13_EntryCloses_L1_B (F : Nat) (r4 : List GEnrolment × List GRefusal × Int) (r6 : List GEnrolment × List GRefusal × Int) (r7 : List GEnrolment × List GRefusal × Int) (rec1 : Int → Option Bool) (n8 : Int) : Option Bool :=
  if (decide (n8 < (r7.1.length : Int))) = true then
    (idx r7.1 n8).bind fun x10 =>
    if x10.Late = true then
      some false
    else
    rec1 (i64 (n8 + 1))
  else
  (if (r4.2.2 == 0) = true then if (r6.2.2 == 0) = true then if (r7.2.2 == 0) = true then (law13_same F r4.1 r6.1).bind fun r17 => if r17 = true then (law13_awake F).bind fun r19 => some r19 else some false else some false else some false else some false).bind fun w13 =>
  some w13
def law13_EntryCloses_L1 (F : Nat) (r4 : List GEnrolment × List GRefusal × Int) (r6 : List GEnrolment × List GRefusal × Int) (r7 : List GEnrolment × List GRefusal × Int) : Nat → Int → Option Bool
  | 0 => fun _ => .none
  | n + 1 => law13_EntryCloses_L1_B F r4 r6 r7 (law13_EntryCloses_L1 F r4 r6 r7 n)
def law13_EntryCloses (F : Nat) (p0 : List Int) (p1 : Int) : Option Bool :=
  (make_New p0).bind fun r1 =>
  (GTape_Deadlines r1 0).bind fun r2 =>
  (GTape_EntryEvents F r2.2 12 8).bind fun r3 =>
  (entry_Fold F r3.1 r2.1 r2.1.Late).bind fun r4 =>
  (make_Cut p1 40).bind fun r5 =>
  (entry_Fold F r3.1 r2.1 (i64 (r2.1.Late + r5))).bind fun r6 =>
  (entry_Fold F r3.1 r2.1 r2.1.Close).bind fun r7 =>
  law13_EntryCloses_L1 F r4 r6 r7 F 0
def entry_Find_L1_B (p0 : List GEnrolment) (p1 : Int) (p2 : Int) (rec1 : Int → Option (GEnrolment × Bool)) (n1 : Int) : Option (GEnrolment × Bool) :=
  if (decide (n1 < (p0.length : Int))) = true then
    (idx p0 n1).bind fun x3 =>
    if ((x3.Entry.Candidate == p1) && (x3.Entry.Paper == p2)) = true then
      some (x3, true)
    else
    rec1 (i64 (n1 + 1))
  else
  some ((GEnrolment.mk (GEntry.mk 0 0 0) false), false)
def entry_Find_L1 (p0 : List GEnrolment) (p1 : Int) (p2 : Int) : Nat → Int → Option (GEnrolment × Bool)
  | 0 => fun _ => .none
  | n + 1 => entry_Find_L1_B p0 p1 p2 (entry_Find_L1 p0 p1 p2 n)
def entry_Find (F : Nat) (p0 : List GEnrolment) (p1 : Int) (p2 : Int) : Option (GEnrolment × Bool) :=
  entry_Find_L1 p0 p1 p2 F 0
def law13_EntryOnce_L1_B (F : Nat) (r4 : List GEnrolment × List GRefusal × Int) (rec1 : Int → Option Bool) (n5 : Int) : Option Bool :=
  if (decide (n5 < (r4.1.length : Int))) = true then
    (idx r4.1 n5).bind fun x7 =>
    (idx r4.1 n5).bind fun x8 =>
    (entry_Find F r4.1 x7.Entry.Candidate x8.Entry.Paper).bind fun r9 =>
    (if (!r9.2) = true then some true else (idx r4.1 n5).bind fun x13 => if (!(decide (r9.1 = x13))) = true then some true else (idx r4.1 n5).bind fun x15 => (ref13_Entry x15.Entry).bind fun r16 => some (!r16)).bind fun w11 =>
    if w11 = true then
      some false
    else
    if (decide (n5 > 0)) = true then
      (idx r4.1 (i64 (n5 - 1))).bind fun x19 =>
      (idx r4.1 n5).bind fun x20 =>
      if ((decide (x19.Entry.Candidate > x20.Entry.Candidate)) || ((x19.Entry.Candidate == x20.Entry.Candidate) && (decide (x19.Entry.Paper ≥ x20.Entry.Paper)))) = true then
        some false
      else
      rec1 (i64 (n5 + 1))
    else
    rec1 (i64 (n5 + 1))
  else
  (if (r4.2.2 == 0) = true then (law13_awake F).bind fun r28 => some r28 else some false).bind fun w26 =>
  some w26
def law13_EntryOnce_L1 (F : Nat) (r4 : List GEnrolment × List GRefusal × Int) : Nat → Int → Option Bool
  | 0 => fun _ => .none
  | n + 1 => law13_EntryOnce_L1_B F r4 (law13_EntryOnce_L1 F r4 n)
def law13_EntryOnce (F : Nat) (p0 : List Int) : Option Bool :=
  (make_New p0).bind fun r1 =>
  (GTape_Deadlines r1 0).bind fun r2 =>
  (GTape_EntryEvents F r2.2 14 6).bind fun r3 =>
  (entry_Fold F r3.1 r2.1 1000000).bind fun r4 =>
  law13_EntryOnce_L1 F r4 F 0
def entry_valid_L1_B (F : Nat) (p0 : List GEnrolment) (rec1 : Int → Option Bool) (n2 : Int) : Option Bool :=
  if (decide (n2 < (p0.length : Int))) = true then
    (idx p0 n2).bind fun x4 =>
    ((entry_validEntry x4.Entry).bind fun r7 => if (!r7) = true then some true else if (decide (n2 > 0)) = true then (idx p0 (i64 (n2 - 1))).bind fun x10 => (entry_compare F x10 x4.Entry).bind fun r11 => some (decide (r11 ≥ 0)) else some false).bind fun w6 =>
    if w6 = true then
      some false
    else
    rec1 (i64 (n2 + 1))
  else
  some true
def entry_valid_L1 (F : Nat) (p0 : List GEnrolment) : Nat → Int → Option Bool
  | 0 => fun _ => .none
  | n + 1 => entry_valid_L1_B F p0 (entry_valid_L1 F p0 n)
def entry_valid (F : Nat) (p0 : List GEnrolment) : Option Bool :=
  if (decide ((p0.length : Int) > 300)) = true then
    some false
  else
  entry_valid_L1 F p0 F 0
def entry_Apply (F : Nat) (p0 : List GEnrolment) (p1 : GDeadlines) (p2 : GEntryEvent) : Option (List GEnrolment × Int) :=
  ((entry_valid F p0).bind fun r3 => if (!r3) = true then some true else (entry_validDeadlines p1).bind fun r5 => some (!r5)).bind fun w2 =>
  if w2 = true then
    some ([], 1)
  else
  (entry_step F p0 p1 p2).bind fun r7 =>
  some (r7.1, r7.2)
def law13_EntryApplies_L2_B (F : Nat) (r2 : GDeadlines × GTape) (l5 : List GEnrolment) (r8 : List GEntryEvent × GTape) (rec2 : Int → Option Bool) (n9 : Int) : Option Bool :=
  if (decide (n9 < (r8.1.length : Int))) = true then
    (idx r8.1 n9).bind fun x11 =>
    (entry_Apply F l5 r2.1 x11).bind fun r12 =>
    (idx r8.1 n9).bind fun x13 =>
    (ref13_Apply F l5 r2.1 x13).bind fun r14 =>
    ((law13_same F r12.1 r14.1).bind fun r17 => if (!r17) = true then some true else some (r12.2 != r14.2)).bind fun w16 =>
    if w16 = true then
      some false
    else
    rec2 (i64 (n9 + 1))
  else
  (law13_awake F).bind fun r20 =>
  some r20
def law13_EntryApplies_L2 (F : Nat) (r2 : GDeadlines × GTape) (l5 : List GEnrolment) (r8 : List GEntryEvent × GTape) : Nat → Int → Option Bool
  | 0 => fun _ => .none
  | n + 1 => law13_EntryApplies_L2_B F r2 l5 r8 (law13_EntryApplies_L2 F r2 l5 r8 n)
def law13_EntryApplies_J1 (F : Nat) (r2 : GDeadlines × GTape) (l5 : List GEnrolment) (l6 : List Int) (n7 : Int) : Option Bool :=
  (GTape_EntryEvents F (GTape.mk l6 n7) 4 2).bind fun r8 =>
  law13_EntryApplies_L2 F r2 l5 r8 F 0
def law13_EntryApplies (F : Nat) (p0 : List Int) : Option Bool :=
  (make_New p0).bind fun r1 =>
  (GTape_Deadlines r1 10).bind fun r2 =>
  (GTape_EntryEvents F r2.2 8 0).bind fun r3 =>
  (ref13_Fold F r3.1 (GDeadlines.mk 20 24) 24).bind fun r4 =>
  (if (decide ((r4.1.length : Int) > 0)) = true then (GTape_One r3.2 10).bind fun r26 => some (r26.1, r26.2.L, r26.2.At) else some (false, r3.2.L, r3.2.At)).bind fun w24 =>
  if w24.1 = true then
    (GTape_Next (GTape.mk w24.2.1 w24.2.2) (r4.1.length : Int)).bind fun r28 =>
    (idx r4.1 r28.1).bind fun x29 =>
    (app r4.1 [x29]).bind fun v30 =>
    law13_EntryApplies_J1 F r2 v30 r28.2.L r28.2.At
  else
  law13_EntryApplies_J1 F r2 r4.1 w24.2.1 w24.2.2
def ref13_Find (F : Nat) (p0 : List GEnrolment) (p1 : Int) (p2 : Int) : Option (GEnrolment × Bool) :=
  (ref13_index F p0 p1 p2).bind fun r1 =>
  if (decide (r1 < 0)) = true then
    some ((GEnrolment.mk (GEntry.mk 0 0 0) false), false)
  else
  (idx p0 r1).bind fun x3 =>
  some (x3, true)
def entry_Paper_L1_B (p0 : List GEnrolment) (p1 : Int) (rec1 : Int → (List GEnrolment) → Option (List GEnrolment)) (n1 : Int) (l2 : List GEnrolment) : Option (List GEnrolment) :=
  if (decide (n1 < (p0.length : Int))) = true then
    (idx p0 n1).bind fun x4 =>
    if (x4.Entry.Paper == p1) = true then
      (app l2 [x4]).bind fun v6 =>
      rec1 (i64 (n1 + 1)) v6
    else
    rec1 (i64 (n1 + 1)) l2
  else
  some l2
def entry_Paper_L1 (p0 : List GEnrolment) (p1 : Int) : Nat → Int → (List GEnrolment) → Option (List GEnrolment)
  | 0 => fun _ _ => .none
  | n + 1 => entry_Paper_L1_B p0 p1 (entry_Paper_L1 p0 p1 n)
def entry_Paper (F : Nat) (p0 : List GEnrolment) (p1 : Int) : Option (List GEnrolment) :=
  entry_Paper_L1 p0 p1 F 0 ([] : List GEnrolment)
def ref13_Paper_L1_B (p0 : List GEnrolment) (p1 : Int) (rec1 : Int → (List GEnrolment) → Option (List GEnrolment)) (n1 : Int) (l2 : List GEnrolment) : Option (List GEnrolment) :=
  if (decide (n1 < (p0.length : Int))) = true then
    (idx p0 n1).bind fun x4 =>
    if (x4.Entry.Paper == p1) = true then
      (idx p0 n1).bind fun x6 =>
      (app l2 [x6]).bind fun v7 =>
      rec1 (i64 (n1 + 1)) v7
    else
    rec1 (i64 (n1 + 1)) l2
  else
  some l2
def ref13_Paper_L1 (p0 : List GEnrolment) (p1 : Int) : Nat → Int → (List GEnrolment) → Option (List GEnrolment)
  | 0 => fun _ _ => .none
  | n + 1 => ref13_Paper_L1_B p0 p1 (ref13_Paper_L1 p0 p1 n)
def ref13_Paper (F : Nat) (p0 : List GEnrolment) (p1 : Int) : Option (List GEnrolment) :=
  ref13_Paper_L1 p0 p1 F 0 ([] : List GEnrolment)
def law13_EntryFinds (F : Nat) (p0 : List GEnrolment) (p1 : List Int) (p2 : Int) (p3 : Int) : Option Bool :=
  if (decide ((p0.length : Int) > 40)) = true then
    some true
  else
  (make_New p1).bind fun r2 =>
  (GTape_EntryEvents F r2 10 0).bind fun r3 =>
  (ref13_Fold F r3.1 (GDeadlines.mk 20 30) 30).bind fun r4 =>
  (make_Cut p2 5).bind fun r5 =>
  (make_Cut p3 3).bind fun r6 =>
  (entry_Find F p0 p2 p3).bind fun r7 =>
  (ref13_Find F p0 p2 p3).bind fun r8 =>
  (entry_Find F r4.1 r5 r6).bind fun r9 =>
  (ref13_Find F r4.1 r5 r6).bind fun r10 =>
  (if (decide (r7.1 = r8.1)) = true then if (r7.2 == r8.2) = true then if (decide (r9.1 = r10.1)) = true then if (r9.2 == r10.2) = true then (entry_Paper F p0 p3).bind fun r17 => (ref13_Paper F p0 p3).bind fun r18 => (law13_same F r17 r18).bind fun r19 => if r19 = true then (entry_Paper F r4.1 r6).bind fun r21 => (ref13_Paper F r4.1 r6).bind fun r22 => (law13_same F r21 r22).bind fun r23 => if r23 = true then (law13_awake F).bind fun r25 => some r25 else some false else some false else some false else some false else some false else some false).bind fun w12 =>
  some w12
def law13_EntryMany_L1_B (F : Nat) (r1 : Int) (rec1 : Int → (List GEntryEvent) → (List GEnrolment) → Option Bool) (n2 : Int) (l3 : List GEntryEvent) (l4 : List GEnrolment) : Option Bool :=
  if (decide (n2 < (i64 (297 + r1)))) = true then
    (app l3 [(GEntryEvent.mk (GStamp.mk 0 1 n2) 1 (GEntry.mk n2 1 0) 0)]).bind fun v6 =>
    (app l4 [(GEnrolment.mk (GEntry.mk n2 1 0) false)]).bind fun v7 =>
    rec1 (i64 (n2 + 1)) v6 v7
  else
  (entry_Fold F l3 (GDeadlines.mk 1 2) 5).bind fun r8 =>
  (entry_Apply F l4 (GDeadlines.mk 1 2) (GEntryEvent.mk (GStamp.mk 0 0 0) 1 (GEntry.mk 9000 1 0) 0)).bind fun r9 =>
  if (decide ((i64 (297 + r1)) > 300)) = true then
    (if (r8.2.2 == 3) = true then if ((r8.1.length : Int) == 0) = true then if (r9.2 == 1) = true then (law13_awake F).bind fun r16 => some r16 else some false else some false else some false).bind fun w12 =>
    some w12
  else
  (if (r8.2.2 != 0) = true then some true else (law13_same F r8.1 l4).bind fun r20 => some (!r20)).bind fun w18 =>
  if w18 = true then
    some false
  else
  if ((i64 (297 + r1)) == 300) = true then
    (if (r9.2 == 3) = true then (law13_awake F).bind fun r26 => some r26 else some false).bind fun w24 =>
    some w24
  else
  (if (r9.2 == 0) = true then if ((r9.1.length : Int) == (i64 ((i64 (297 + r1)) + 1))) = true then (law13_awake F).bind fun r31 => some r31 else some false else some false).bind fun w28 =>
  some w28
def law13_EntryMany_L1 (F : Nat) (r1 : Int) : Nat → Int → (List GEntryEvent) → (List GEnrolment) → Option Bool
  | 0 => fun _ _ _ => .none
  | n + 1 => law13_EntryMany_L1_B F r1 (law13_EntryMany_L1 F r1 n)
def law13_EntryMany (F : Nat) (p0 : Int) : Option Bool :=
  (make_Cut p0 6).bind fun r1 =>
  law13_EntryMany_L1 F r1 F 0 ([] : List GEntryEvent) ([] : List GEnrolment)
def law13_EntryOwn_L3_B (rec1 : Int → Option Bool) (F : Nat) (r4 : List GEnrolment × List GRefusal × Int) (r5 : List GEntryEvent × GTape) (n6 : Int) (r9 : List GEnrolment × Int) (n11 : Int) (rec3 : Int → Int → Option Bool) (n29 : Int) (n30 : Int) : Option Bool :=
  if (decide (n30 < (r9.1.length : Int))) = true then
    (idx r9.1 n30).bind fun x32 =>
    (idx r9.1 n30).bind fun x33 =>
    (entry_Find F r4.1 x32.Entry.Candidate x33.Entry.Paper).bind fun r34 =>
    (if (!r34.2) = true then some true else (idx r9.1 n30).bind fun x38 => some (!(decide (r34.1 = x38)))).bind fun w36 =>
    if w36 = true then
      rec3 (i64 (n29 + 1)) (i64 (n30 + 1))
    else
    rec3 n29 (i64 (n30 + 1))
  else
  ((idx r5.1 n6).bind fun x42 => if (decide (x42.Kind < 1)) = true then some true else (idx r5.1 n6).bind fun x44 => if (decide (x44.Kind > 3)) = true then some true else (idx r5.1 n6).bind fun x46 => (idx [0, 0, 1, 1] x46.Kind).bind fun x47 => if (n11 != x47) = true then some true else (idx r5.1 n6).bind fun x49 => (idx [0, 1, 0, 1] x49.Kind).bind fun x50 => some (n29 != x50)).bind fun w41 =>
  if w41 = true then
    some false
  else
  rec1 (i64 (n6 + 1))
def law13_EntryOwn_L3 (rec1 : Int → Option Bool) (F : Nat) (r4 : List GEnrolment × List GRefusal × Int) (r5 : List GEntryEvent × GTape) (n6 : Int) (r9 : List GEnrolment × Int) (n11 : Int) : Nat → Int → Int → Option Bool
  | 0 => fun _ _ => .none
  | n + 1 => law13_EntryOwn_L3_B rec1 F r4 r5 n6 r9 n11 (law13_EntryOwn_L3 rec1 F r4 r5 n6 r9 n11 n)
def law13_EntryOwn_L2_B (rec1 : Int → Option Bool) (F : Nat) (r4 : List GEnrolment × List GRefusal × Int) (r5 : List GEntryEvent × GTape) (n6 : Int) (r9 : List GEnrolment × Int) (rec2 : Int → Int → Option Bool) (n11 : Int) (n12 : Int) : Option Bool :=
  if (decide (n12 < (r4.1.length : Int))) = true then
    (idx r4.1 n12).bind fun x14 =>
    (idx r4.1 n12).bind fun x15 =>
    (entry_Find F r9.1 x14.Entry.Candidate x15.Entry.Paper).bind fun r16 =>
    (if (!r16.2) = true then some true else (idx r4.1 n12).bind fun x20 => some (!(decide (r16.1 = x20)))).bind fun w18 =>
    if w18 = true then
      ((idx r5.1 n6).bind fun x24 => if (x24.Stamp.Source != 0) = true then (idx r5.1 n6).bind fun x26 => (idx r4.1 n12).bind fun x27 => some (x26.Stamp.Source != x27.Entry.Centre) else some false).bind fun w23 =>
      if w23 = true then
        some false
      else
      rec2 (i64 (n11 + 1)) (i64 (n12 + 1))
    else
    rec2 n11 (i64 (n12 + 1))
  else
  law13_EntryOwn_L3 rec1 F r4 r5 n6 r9 n11 F 0 0
def law13_EntryOwn_L2 (rec1 : Int → Option Bool) (F : Nat) (r4 : List GEnrolment × List GRefusal × Int) (r5 : List GEntryEvent × GTape) (n6 : Int) (r9 : List GEnrolment × Int) : Nat → Int → Int → Option Bool
  | 0 => fun _ _ => .none
  | n + 1 => law13_EntryOwn_L2_B rec1 F r4 r5 n6 r9 (law13_EntryOwn_L2 rec1 F r4 r5 n6 r9 n)
def law13_EntryOwn_L1_B (F : Nat) (r2 : GDeadlines × GTape) (r4 : List GEnrolment × List GRefusal × Int) (r5 : List GEntryEvent × GTape) (rec1 : Int → Option Bool) (n6 : Int) : Option Bool :=
  if (decide (n6 < (r5.1.length : Int))) = true then
    (idx r5.1 n6).bind fun x8 =>
    (entry_Apply F r4.1 r2.1 x8).bind fun r9 =>
    if (r9.2 != 0) = true then
      rec1 (i64 (n6 + 1))
    else
    law13_EntryOwn_L2 rec1 F r4 r5 n6 r9 F 0 0
  else
  (law13_awake F).bind fun r52 =>
  some r52
def law13_EntryOwn_L1 (F : Nat) (r2 : GDeadlines × GTape) (r4 : List GEnrolment × List GRefusal × Int) (r5 : List GEntryEvent × GTape) : Nat → Int → Option Bool
  | 0 => fun _ => .none
  | n + 1 => law13_EntryOwn_L1_B F r2 r4 r5 (law13_EntryOwn_L1 F r2 r4 r5 n)
def law13_EntryOwn (F : Nat) (p0 : List Int) : Option Bool :=
  (make_New p0).bind fun r1 =>
  (GTape_Deadlines r1 0).bind fun r2 =>
  (GTape_EntryEvents F r2.2 10 0).bind fun r3 =>
  (entry_Fold F r3.1 r2.1 1000000).bind fun r4 =>
  (GTape_EntryEvents F r3.2 3 5).bind fun r5 =>
  law13_EntryOwn_L1 F r2 r4 r5 F 0
end
end Go.Sh
