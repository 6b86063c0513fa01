/- The plain functions: what the Go code computes, printed by program (gen.py). -/
import Derived.Test.YtapnjifcfljmmaaLn
import Derived.Test.YtapnjifcfljmmaaLw
set_option linter.unusedVariables false
set_option linter.unusedSimpArgs false
set_option maxRecDepth 100000
namespace Go.Sh
open Go.L
noncomputable section
structure GTape where
  L : List Int
  At : Int
  deriving DecidableEq, Inhabited
def GTape.lv (x : GTape) : LV := .agg [(lvl 1 (LV.int .i64)) x.L, LV.int .i64 x.At]
theorem GTape.ok : OkF 2 GTape.lv := fun _ => ⟨rfl, rfl, rfl⟩
structure GStamp where
  Time : Int
  Source : Int
  Seq : Int
  deriving DecidableEq, Inhabited
def GStamp.lv (x : GStamp) : LV := .agg [LV.int .i64 x.Time, LV.int .i64 x.Source, LV.int .i64 x.Seq]
theorem GStamp.ok : OkF 3 GStamp.lv := fun _ => ⟨rfl, rfl, rfl⟩
structure GRegisterEvent where
  Stamp : GStamp
  Kind : Int
  Candidate : Int
  Minutes : Int
  deriving DecidableEq, Inhabited
def GRegisterEvent.lv (x : GRegisterEvent) : LV := .agg [LV.int .i64 x.Stamp.Time, LV.int .i64 x.Stamp.Source, LV.int .i64 x.Stamp.Seq, LV.int .i64 x.Kind, LV.int .i64 x.Candidate, LV.int .i64 x.Minutes]
theorem GRegisterEvent.ok : OkF 6 GRegisterEvent.lv := fun _ => ⟨rfl, rfl, rfl⟩
structure GEntry where
  Candidate : Int
  Centre : Int
  Paper : Int
  deriving DecidableEq, Inhabited
def GEntry.lv (x : GEntry) : LV := .agg [LV.int .i64 x.Candidate, LV.int .i64 x.Centre, LV.int .i64 x.Paper]
theorem GEntry.ok : OkF 3 GEntry.lv := fun _ => ⟨rfl, rfl, rfl⟩
structure GEnrolment where
  Entry : GEntry
  Late : Bool
  deriving DecidableEq, Inhabited
def GEnrolment.lv (x : GEnrolment) : LV := .agg [LV.int .i64 x.Entry.Candidate, LV.int .i64 x.Entry.Centre, LV.int .i64 x.Entry.Paper, LV.bool x.Late]
theorem GEnrolment.ok : OkF 4 GEnrolment.lv := fun _ => ⟨rfl, rfl, rfl⟩
structure GAttendance where
  Candidate : Int
  State : Int
  Late : Int
  Left : Int
  Incidents : List Int
  deriving DecidableEq, Inhabited
def GAttendance.lv (x : GAttendance) : LV := .agg [LV.int .i64 x.Candidate, LV.int .i64 x.State, LV.int .i64 x.Late, LV.int .i64 x.Left, (lvl 1 (LV.int .i64)) x.Incidents]
theorem GAttendance.ok : OkF 5 GAttendance.lv := fun _ => ⟨rfl, rfl, rfl⟩
structure GIdentity where
  Source : Int
  Seq : Int
  deriving DecidableEq, Inhabited
def GIdentity.lv (x : GIdentity) : LV := .agg [LV.int .i64 x.Source, LV.int .i64 x.Seq]
theorem GIdentity.ok : OkF 2 GIdentity.lv := fun _ => ⟨rfl, rfl, rfl⟩
structure GRefusal where
  Event : GIdentity
  Code : Int
  deriving DecidableEq, Inhabited
def GRefusal.lv (x : GRefusal) : LV := .agg [LV.int .i64 x.Event.Source, LV.int .i64 x.Event.Seq, LV.int .i64 x.Code]
theorem GRefusal.ok : OkF 3 GRefusal.lv := fun _ => ⟨rfl, rfl, rfl⟩
-- attendance_register: enc 91 *api.Attendance
structure stamp_group where
  first : Int
  disputed : Bool
  deriving DecidableEq, Inhabited
def stamp_group.lv (x : stamp_group) : LV := .agg [LV.int .i64 x.first, LV.bool x.disputed]
theorem stamp_group.ok : OkF 2 stamp_group.lv := fun _ => ⟨rfl, rfl, rfl⟩
def make_New (p0 : List Int) : Option GTape :=
  if (decide ((p0.length : Int) > 600)) = true then
    (slc p0 0 600).bind fun v2 =>
    some (GTape.mk v2 0)
  else
  some (GTape.mk p0 0)
def GTape_Raw (p0 : GTape) : Option (Int × GTape) :=
  if (decide (p0.At ≥ (p0.L.length : Int))) = true then
    some (0, p0)
  else
  (idx p0.L (i64 ((i64 (p0.At + 1)) - 1))).bind fun x2 =>
  some (x2, (GTape.mk p0.L (i64 (p0.At + 1))))
def make_Cut (p0 : Int) (p1 : Int) : Option Int :=
  if (decide (p1 < 1)) = true then
    some 0
  else
  (rmd p0 p1).bind fun v2 =>
  if (decide (v2 < 0)) = true then
    some (i64 (v2 + p1))
  else
  some v2
def GTape_Next (p0 : GTape) (p1 : Int) : Option (Int × GTape) :=
  (GTape_Raw p0).bind fun r1 =>
  (make_Cut r1.1 p1).bind fun r2 =>
  some (r2, r1.2)
def GTape_Range (p0 : GTape) (p1 : Int) (p2 : Int) : Option (Int × GTape) :=
  (GTape_Next p0 (i64 ((i64 (p2 - p1)) + 1))).bind fun r1 =>
  some ((i64 (p1 + r1.1)), r1.2)
def GTape_Pick (p0 : GTape) (p1 : List Int) : Option (Int × GTape) :=
  (GTape_Next p0 (p1.length : Int)).bind fun r1 =>
  (idx p1 r1.1).bind fun x2 =>
  some (x2, r1.2)
def GTape_One (p0 : GTape) (p1 : Int) : Option (Bool × GTape) :=
  (GTape_Next p0 p1).bind fun r1 =>
  some ((r1.1 == (i64 (p1 - 1))), r1.2)
def GTape_Wild (p0 : GTape) : Option (Int × GTape) :=
  (GTape_Pick p0 [(-1), 0, 1, 2, 31, 32, 99, 100, 200, 201, 9999, 10000, 1000000, 1000001, 1152921504606846976, 1152921504606846977, (-1152921504606846976), 9223372036854775807, (-9223372036854775808)]).bind fun r1 =>
  some (r1.1, r1.2)
def GTape_Stamp (p0 : GTape) (p1 : Int) : Option (GStamp × GTape) :=
  (GTape_Range p0 0 24).bind fun r1 =>
  (GTape_Range r1.2 0 3).bind fun r2 =>
  (GTape_Range r2.2 0 9).bind fun r3 =>
  (if (decide (p1 > 0)) = true then (GTape_One r3.2 p1).bind fun r9 => some (r9.1, r9.2.L, r9.2.At) else some (false, r3.2.L, r3.2.At)).bind fun w7 =>
  if w7.1 = true then
    (GTape_Next (GTape.mk w7.2.1 w7.2.2) 3).bind fun r11 =>
    if (r11.1 == 0) = true then
      (GTape_Wild r11.2).bind fun r13 =>
      some ((GStamp.mk r13.1 r2.1 r3.1), r13.2)
    else
    if (r11.1 == 1) = true then
      (GTape_Wild r11.2).bind fun r15 =>
      some ((GStamp.mk r1.1 r15.1 r3.1), r15.2)
    else
    (GTape_Wild r11.2).bind fun r16 =>
    some ((GStamp.mk r1.1 r2.1 r16.1), r16.2)
  else
  some ((GStamp.mk r1.1 r2.1 r3.1), (GTape.mk w7.2.1 w7.2.2))
def GTape_RegisterEvents_J2 (rec1 : Int → (List Int) → Int → (List GRegisterEvent) → Option (List GRegisterEvent × GTape)) (n2 : Int) (l5 : List GRegisterEvent) (n12 : Int) (n13 : Int) (n14 : Int) (n15 : Int) (n16 : Int) (n17 : Int) (l18 : List Int) (n19 : Int) : Option (List GRegisterEvent × GTape) :=
  (app l5 [(GRegisterEvent.mk (GStamp.mk n12 n13 n14) n15 n16 n17)]).bind fun v20 =>
  (GTape_One (GTape.mk l18 n19) 8).bind fun r21 =>
  if r21.1 = true then
    (GTape_Next r21.2 (v20.length : Int)).bind fun r23 =>
    (idx v20 r23.1).bind fun x24 =>
    (app v20 [x24]).bind fun v25 =>
    rec1 (i64 (n2 - 1)) r23.2.L r23.2.At v25
  else
  rec1 (i64 (n2 - 1)) r21.2.L r21.2.At v20
def GTape_RegisterEvents_L1_B (p2 : Int) (rec1 : Int → (List Int) → Int → (List GRegisterEvent) → Option (List GRegisterEvent × GTape)) (n2 : Int) (l3 : List Int) (n4 : Int) (l5 : List GRegisterEvent) : Option (List GRegisterEvent × GTape) :=
  if (decide (n2 > 0)) = true then
    (GTape_Range (GTape.mk l3 n4) 0 24).bind fun r7 =>
    (GTape_Pick r7.2 [0, 0, 1, 2, 3]).bind fun r8 =>
    (GTape_Range r8.2 1 5).bind fun r9 =>
    (GTape_Next r9.2 5).bind fun r10 =>
    (GTape_Next r10.2 60).bind fun r11 =>
    (if (decide (p2 > 0)) = true then (GTape_One r11.2 p2).bind fun r31 => some (r31.1, r31.2.L, r31.2.At) else some (false, r11.2.L, r11.2.At)).bind fun w29 =>
    if w29.1 = true then
      (GTape_Next (GTape.mk w29.2.1 w29.2.2) 4).bind fun r33 =>
      if (r33.1 == 0) = true then
        (GTape_Range r33.2 (-1) 7).bind fun r35 =>
        GTape_RegisterEvents_J2 rec1 n2 l5 r7.1 r8.1 (l5.length : Int) r35.1 r10.1 r11.1 r35.2.L r35.2.At
      else
      if (r33.1 == 1) = true then
        (GTape_Wild r33.2).bind fun r37 =>
        GTape_RegisterEvents_J2 rec1 n2 l5 r7.1 r8.1 (l5.length : Int) r9.1 r37.1 r11.1 r37.2.L r37.2.At
      else
      if (r33.1 == 2) = true then
        (GTape_Pick r33.2 [(-1), 600, 601]).bind fun r39 =>
        GTape_RegisterEvents_J2 rec1 n2 l5 r7.1 r8.1 (l5.length : Int) r9.1 r10.1 r39.1 r39.2.L r39.2.At
      else
      (GTape_Stamp r33.2 4).bind fun r40 =>
      GTape_RegisterEvents_J2 rec1 n2 l5 r40.1.Time r40.1.Source r40.1.Seq r9.1 r10.1 r11.1 r40.2.L r40.2.At
    else
    GTape_RegisterEvents_J2 rec1 n2 l5 r7.1 r8.1 (l5.length : Int) r9.1 r10.1 r11.1 w29.2.1 w29.2.2
  else
  some (l5, (GTape.mk l3 n4))
def GTape_RegisterEvents_L1 (p2 : Int) : Nat → Int → (List Int) → Int → (List GRegisterEvent) → Option (List GRegisterEvent × GTape)
  | 0 => fun _ _ _ _ => .none
  | n + 1 => GTape_RegisterEvents_L1_B p2 (GTape_RegisterEvents_L1 p2 n)
def GTape_RegisterEvents (F : Nat) (p0 : GTape) (p1 : Int) (p2 : Int) : Option (List GRegisterEvent × GTape) :=
  (GTape_Range p0 0 p1).bind fun r1 =>
  GTape_RegisterEvents_L1 p2 F r1.1 r1.2.L r1.2.At ([] : List GRegisterEvent)
def copies_Split_RegisterEvent_L1_B (p0 : List GRegisterEvent) (p1 : (GRegisterEvent → Option GStamp)) (p2 : (GRegisterEvent → GRegisterEvent → Option Bool)) (rec1 : Int → (List GStamp) → (List Int) → (List (GStamp × Int)) → Option (List GStamp × List Int)) (n3 : Int) (l4 : List GStamp) (l5 : List Int) (m6 : List (GStamp × Int)) : Option (List GStamp × List Int) :=
  if (decide (n3 < (p0.length : Int))) = true then
    (idx p0 n3).bind fun x8 =>
    (p1 x8).bind fun r9 =>
    (idx l4 n3).bind fun x10 =>
    (idx (l4.set n3.toNat r9) n3).bind fun x11 =>
    if (!((mget m6 x11).isSome)) = true then
      (idx (l4.set n3.toNat r9) n3).bind fun x13 =>
      rec1 (i64 (n3 + 1)) (l4.set n3.toNat r9) l5 (mput m6 x13 n3)
    else
    (idx p0 ((mget m6 x11).getD 0)).bind fun x14 =>
    (p2 x14 x8).bind fun r15 =>
    if (!r15) = true then
      (idx l5 n3).bind fun x17 =>
      rec1 (i64 (n3 + 1)) (l4.set n3.toNat r9) (l5.set n3.toNat 1) m6
    else
    rec1 (i64 (n3 + 1)) (l4.set n3.toNat r9) l5 m6
  else
  some (l4, l5)
def copies_Split_RegisterEvent_L1 (p0 : List GRegisterEvent) (p1 : (GRegisterEvent → Option GStamp)) (p2 : (GRegisterEvent → GRegisterEvent → Option Bool)) : Nat → Int → (List GStamp) → (List Int) → (List (GStamp × Int)) → Option (List GStamp × List Int)
  | 0 => fun _ _ _ _ => .none
  | n + 1 => copies_Split_RegisterEvent_L1_B p0 p1 p2 (copies_Split_RegisterEvent_L1 p0 p1 p2 n)
def copies_Split_RegisterEvent (F : Nat) (p0 : List GRegisterEvent) (p1 : (GRegisterEvent → Option GStamp)) (p2 : (GRegisterEvent → GRegisterEvent → Option Bool)) : Option (List GStamp × List Int) :=
  (mkl ((GStamp.mk 0 0 0) : GStamp) (p0.length : Int)).bind fun v1 =>
  (mkl (0 : Int) (p0.length : Int)).bind fun v2 =>
  copies_Split_RegisterEvent_L1 p0 p1 p2 F 0 v1 v2 ([] : List (GStamp × Int))
def stamp_Valid (p0 : GStamp) : Option Bool :=
  some ((decide (p0.Time ≥ 0)) && ((decide (p0.Time ≤ 1000000)) && ((decide (p0.Source ≥ 0)) && ((decide (p0.Source ≤ 99)) && ((decide (p0.Seq ≥ 0)) && (decide (p0.Seq ≤ 9999)))))))
def cmp_isNaN_int (p0 : Int) : Option Bool :=
  some (p0 != p0)
def cmp_Compare_int (p0 : Int) (p1 : Int) : Option Int :=
  (cmp_isNaN_int p0).bind fun r1 =>
  (cmp_isNaN_int p1).bind fun r2 =>
  if r1 = true then
    if r2 = true then
      some 0
    else
    some (-1)
  else
  if r2 = true then
    some 1
  else
  if (decide (p0 < p1)) = true then
    some (-1)
  else
  if (decide (p0 > p1)) = true then
    some 1
  else
  some 0
def cmp_Or_int_L1_B (p0 : List Int) (rec1 : Int → Option Int) (n1 : Int) : Option Int :=
  if (decide (n1 < (p0.length : Int))) = true then
    (idx p0 n1).bind fun x3 =>
    if (x3 != 0) = true then
      some x3
    else
    rec1 (i64 (n1 + 1))
  else
  some 0
def cmp_Or_int_L1 (p0 : List Int) : Nat → Int → Option Int
  | 0 => fun _ => .none
  | n + 1 => cmp_Or_int_L1_B p0 (cmp_Or_int_L1 p0 n)
def cmp_Or_int (F : Nat) (p0 : List Int) : Option Int :=
  cmp_Or_int_L1 p0 F 0
def stamp_compareIdentity (F : Nat) (p0 : GStamp) (p1 : GStamp) : Option Int :=
  (cmp_Compare_int p0.Source p1.Source).bind fun r1 =>
  (cmp_Compare_int p0.Seq p1.Seq).bind fun r2 =>
  (cmp_Or_int F [r1, r2]).bind fun r3 =>
  some r3
def stamp_groups_1 (F : Nat) (p0 : Int) (p1 : Int) (c0 : List GStamp) : Option Int :=
  (idx c0 p0).bind fun x1 =>
  (idx c0 p1).bind fun x2 =>
  (stamp_compareIdentity F x1 x2).bind fun r3 =>
  (cmp_Compare_int p0 p1).bind fun r4 =>
  (cmp_Or_int F [r3, r4]).bind fun r5 =>
  some r5
def stamp_groups_L2_B (F : Nat) (p0 : List GStamp) (p1 : List Int) (l8 : List Int) (rec2 : Int → (List stamp_group) → Option (List stamp_group)) (n9 : Int) (l10 : List stamp_group) : Option (List stamp_group) :=
  if (decide (n9 < (l8.length : Int))) = true then
    (idx l8 n9).bind fun x12 =>
    (if (decide ((i64 ((l10.length : Int) - 1)) < 0)) = true then some true else (idx l10 (i64 ((l10.length : Int) - 1))).bind fun x16 => (idx p0 x16.first).bind fun x17 => (idx p0 x12).bind fun x18 => (stamp_compareIdentity F x17 x18).bind fun r19 => some (r19 != 0)).bind fun w14 =>
    if w14 = true then
      (app l10 [(stamp_group.mk x12 false)]).bind fun v21 =>
      rec2 (i64 (n9 + 1)) v21
    else
    (idx l10 (i64 ((l10.length : Int) - 1))).bind fun x22 =>
    ((idx p0 x22.first).bind fun x25 => (idx p0 x12).bind fun x26 => if (!(decide (x25 = x26))) = true then some true else (idx p1 x22.first).bind fun x28 => (idx p1 x12).bind fun x29 => some (x28 != x29)).bind fun w24 =>
    if w24 = true then
      (idx l10 (i64 ((l10.length : Int) - 1))).bind fun x31 =>
      rec2 (i64 (n9 + 1)) (l10.set ((i64 ((l10.length : Int) - 1)).toNat) (stamp_group.mk x31.first true))
    else
    rec2 (i64 (n9 + 1)) l10
  else
  some l10
def stamp_groups_L2 (F : Nat) (p0 : List GStamp) (p1 : List Int) (l8 : List Int) : Nat → Int → (List stamp_group) → Option (List stamp_group)
  | 0 => fun _ _ => .none
  | n + 1 => stamp_groups_L2_B F p0 p1 l8 (stamp_groups_L2 F p0 p1 l8 n)
def stamp_groups_L1_B (F : Nat) (p0 : List GStamp) (p1 : List Int) (rec1 : Int → (List Int) → Option (List stamp_group)) (n1 : Int) (l2 : List Int) : Option (List stamp_group) :=
  if (decide (n1 < (p0.length : Int))) = true then
    (idx p0 n1).bind fun x4 =>
    (stamp_Valid x4).bind fun r5 =>
    if r5 = true then
      (app l2 [n1]).bind fun v7 =>
      rec1 (i64 (n1 + 1)) v7
    else
    rec1 (i64 (n1 + 1)) l2
  else
  (sortF (fun a0 a1 => stamp_groups_1 F a0 a1 p0) l2).bind fun l8 =>
  stamp_groups_L2 F p0 p1 l8 F 0 ([] : List stamp_group)
def stamp_groups_L1 (F : Nat) (p0 : List GStamp) (p1 : List Int) : Nat → Int → (List Int) → Option (List stamp_group)
  | 0 => fun _ _ => .none
  | n + 1 => stamp_groups_L1_B F p0 p1 (stamp_groups_L1 F p0 p1 n)
def stamp_groups (F : Nat) (p0 : List GStamp) (p1 : List Int) : Option (List stamp_group) :=
  stamp_groups_L1 F p0 p1 F 0 ([] : List Int)
def stamp_Compare (F : Nat) (p0 : GStamp) (p1 : GStamp) : Option Int :=
  (cmp_Compare_int p0.Time p1.Time).bind fun r1 =>
  (cmp_Compare_int p0.Source p1.Source).bind fun r2 =>
  (cmp_Compare_int p0.Seq p1.Seq).bind fun r3 =>
  (cmp_Or_int F [r1, r2, r3]).bind fun r4 =>
  some r4
def stamp_Canonical_1 (F : Nat) (p0 : Int) (p1 : Int) (c0 : List GStamp) : Option Int :=
  (idx c0 p0).bind fun x1 =>
  (idx c0 p1).bind fun x2 =>
  (stamp_Compare F x1 x2).bind fun r3 =>
  some r3
def stamp_Canonical_L1_B (F : Nat) (p0 : List GStamp) (r2 : List stamp_group) (rec1 : Int → (List Int) → Option (List Int × Int)) (n3 : Int) (l4 : List Int) : Option (List Int × Int) :=
  if (decide (n3 < (r2.length : Int))) = true then
    (idx r2 n3).bind fun x6 =>
    if (!x6.disputed) = true then
      (app l4 [x6.first]).bind fun v8 =>
      rec1 (i64 (n3 + 1)) v8
    else
    rec1 (i64 (n3 + 1)) l4
  else
  if (decide ((l4.length : Int) > 300)) = true then
    some ([], 3)
  else
  (sortF (fun a0 a1 => stamp_Canonical_1 F a0 a1 p0) l4).bind fun l10 =>
  some (l10, 0)
def stamp_Canonical_L1 (F : Nat) (p0 : List GStamp) (r2 : List stamp_group) : Nat → Int → (List Int) → Option (List Int × Int)
  | 0 => fun _ _ => .none
  | n + 1 => stamp_Canonical_L1_B F p0 r2 (stamp_Canonical_L1 F p0 r2 n)
def stamp_Canonical (F : Nat) (p0 : List GStamp) (p1 : List Int) : Option (List Int × Int) :=
  if ((p0.length : Int) != (p1.length : Int)) = true then
    some ([], 1)
  else
  (stamp_groups F p0 p1).bind fun r2 =>
  stamp_Canonical_L1 F p0 r2 F 0 ([] : List Int)
def copies_Canonical_RegisterEvent (F : Nat) (p0 : List GRegisterEvent) (p1 : (GRegisterEvent → Option GStamp)) (p2 : (GRegisterEvent → GRegisterEvent → Option Bool)) : Option (List Int × Int) :=
  (copies_Split_RegisterEvent F p0 p1 p2).bind fun r1 =>
  (stamp_Canonical F r1.1 r1.2).bind fun r2 =>
  some (r2.1, r2.2)
def attendance_Canonical_1 (p0 : GRegisterEvent) : Option GStamp :=
  some p0.Stamp
def attendance_Same (p0 : GRegisterEvent) (p1 : GRegisterEvent) : Option Bool :=
  some (decide (p0 = p1))
def attendance_Canonical_L1_B (p0 : List GRegisterEvent) (r1 : List Int × Int) (rec1 : Int → (List GRegisterEvent) → Option (List GRegisterEvent × Int)) (n4 : Int) (l5 : List GRegisterEvent) : Option (List GRegisterEvent × Int) :=
  if (decide (n4 < (r1.1.length : Int))) = true then
    (idx r1.1 n4).bind fun x7 =>
    (idx p0 x7).bind fun x8 =>
    (idx l5 n4).bind fun x9 =>
    rec1 (i64 (n4 + 1)) (l5.set n4.toNat x8)
  else
  some (l5, 0)
def attendance_Canonical_L1 (p0 : List GRegisterEvent) (r1 : List Int × Int) : Nat → Int → (List GRegisterEvent) → Option (List GRegisterEvent × Int)
  | 0 => fun _ _ => .none
  | n + 1 => attendance_Canonical_L1_B p0 r1 (attendance_Canonical_L1 p0 r1 n)
def attendance_Canonical (F : Nat) (p0 : List GRegisterEvent) : Option (List GRegisterEvent × Int) :=
  (copies_Canonical_RegisterEvent F p0 (fun a0 => attendance_Canonical_1 a0) (fun a0 a1 => attendance_Same a0 a1)).bind fun r1 =>
  if (r1.2 != 0) = true then
    some ([], r1.2)
  else
  (mkl ((GRegisterEvent.mk (GStamp.mk 0 0 0) 0 0 0) : GRegisterEvent) (r1.1.length : Int)).bind fun v3 =>
  attendance_Canonical_L1 p0 r1 F 0 v3
def ref02_Valid (p0 : GStamp) : Option Bool :=
  some ((decide (p0.Time ≥ 0)) && ((decide (p0.Time ≤ 1000000)) && ((decide (p0.Source ≥ 0)) && ((decide (p0.Source ≤ 99)) && ((decide (p0.Seq ≥ 0)) && (decide (p0.Seq ≤ 9999)))))))
def ref02_disputes (p0 : GStamp) (p1 : GStamp) (p2 : Int) (p3 : Int) : Option Bool :=
  some ((p0.Source == p1.Source) && ((p0.Seq == p1.Seq) && ((p0.Time != p1.Time) || (p2 != p3))))
def ref02_Counts_L1_B (p0 : List GStamp) (p1 : List Int) (p2 : Int) (rec1 : Int → Option Bool) (n4 : Int) : Option Bool :=
  if (decide (n4 < (p0.length : Int))) = true then
    ((idx p0 n4).bind fun x8 => (ref02_Valid x8).bind fun r9 => if r9 = true then (idx p0 p2).bind fun x11 => (idx p0 n4).bind fun x12 => (idx p1 p2).bind fun x13 => (idx p1 n4).bind fun x14 => (ref02_disputes x11 x12 x13 x14).bind fun r15 => if r15 = true then some true else if (decide (n4 < p2)) = true then (idx p0 n4).bind fun x18 => (idx p0 p2).bind fun x19 => some (decide (x18 = x19)) else some false else some false).bind fun w7 =>
    if w7 = true then
      some false
    else
    rec1 (i64 (n4 + 1))
  else
  some true
def ref02_Counts_L1 (p0 : List GStamp) (p1 : List Int) (p2 : Int) : Nat → Int → Option Bool
  | 0 => fun _ => .none
  | n + 1 => ref02_Counts_L1_B p0 p1 p2 (ref02_Counts_L1 p0 p1 p2 n)
def ref02_Counts (F : Nat) (p0 : List GStamp) (p1 : List Int) (p2 : Int) : Option Bool :=
  (idx p0 p2).bind fun x1 =>
  (ref02_Valid x1).bind fun r2 =>
  if (!r2) = true then
    some false
  else
  ref02_Counts_L1 p0 p1 p2 F 0
def ref02_order (p0 : Int) (p1 : Int) : Option Int :=
  if (decide (p0 < p1)) = true then
    some (-1)
  else
  if (decide (p0 > p1)) = true then
    some 1
  else
  some 0
def ref02_Compare (p0 : GStamp) (p1 : GStamp) : Option Int :=
  (ref02_order p0.Time p1.Time).bind fun r1 =>
  if (r1 == 0) = true then
    (ref02_order p0.Source p1.Source).bind fun r3 =>
    if (r3 == 0) = true then
      (ref02_order p0.Seq p1.Seq).bind fun r5 =>
      some r5
    else
    some r3
  else
  if (r1 == 0) = true then
    (ref02_order p0.Seq p1.Seq).bind fun r7 =>
    some r7
  else
  some r1
def ref02_Canonical_L2_B (rec1 : (List Int) → Int → Option (List Int × Int)) (p0 : List GStamp) (l2 : List Int) (n3 : Int) (rec2 : Int → Option (List Int × Int)) (n7 : Int) : Option (List Int × Int) :=
  (if (decide (n7 > 0)) = true then (idx l2 (i64 (n7 - 1))).bind fun x11 => (idx p0 x11).bind fun x12 => (idx p0 n3).bind fun x13 => (ref02_Compare x12 x13).bind fun r14 => some (decide (r14 > 0)) else some false).bind fun w9 =>
  if w9 = true then
    rec2 (i64 (n7 - 1))
  else
  (slc l2 0 n7).bind fun v16 =>
  (app [] v16).bind fun v17 =>
  (app v17 [n3]).bind fun v18 =>
  (slc l2 n7 (l2.length : Int)).bind fun v19 =>
  (app v18 v19).bind fun v20 =>
  rec1 v20 (i64 (n3 + 1))
def ref02_Canonical_L2 (rec1 : (List Int) → Int → Option (List Int × Int)) (p0 : List GStamp) (l2 : List Int) (n3 : Int) : Nat → Int → Option (List Int × Int)
  | 0 => fun _ => .none
  | n + 1 => ref02_Canonical_L2_B rec1 p0 l2 n3 (ref02_Canonical_L2 rec1 p0 l2 n3 n)
def ref02_Canonical_L1_B (F : Nat) (p0 : List GStamp) (p1 : List Int) (rec1 : (List Int) → Int → Option (List Int × Int)) (l2 : List Int) (n3 : Int) : Option (List Int × Int) :=
  if (decide (n3 < (p0.length : Int))) = true then
    (ref02_Counts F p0 p1 n3).bind fun r5 =>
    if (!r5) = true then
      rec1 l2 (i64 (n3 + 1))
    else
    ref02_Canonical_L2 rec1 p0 l2 n3 F (l2.length : Int)
  else
  if (decide ((l2.length : Int) > 300)) = true then
    some ([], 3)
  else
  some (l2, 0)
def ref02_Canonical_L1 (F : Nat) (p0 : List GStamp) (p1 : List Int) : Nat → (List Int) → Int → Option (List Int × Int)
  | 0 => fun _ _ => .none
  | n + 1 => ref02_Canonical_L1_B F p0 p1 (ref02_Canonical_L1 F p0 p1 n)
def ref02_Canonical (F : Nat) (p0 : List GStamp) (p1 : List Int) : Option (List Int × Int) :=
  if ((p1.length : Int) != (p0.length : Int)) = true then
    some ([], 1)
  else
  ref02_Canonical_L1 F p0 p1 F ([] : List Int) 0
def ref16_Canonical_L2_B (rec1 : Int → (List GStamp) → (List Int) → Option (List GRegisterEvent × Int)) (p0 : List GRegisterEvent) (n1 : Int) (l2 : List GStamp) (l3 : List Int) (rec2 : Int → Int → Option (List GRegisterEvent × Int)) (n5 : Int) (n6 : Int) : Option (List GRegisterEvent × Int) :=
  if (decide (n6 ≥ 0)) = true then
    (idx p0 n1).bind fun x8 =>
    (idx p0 n6).bind fun x9 =>
    if (decide (x8 = x9)) = true then
      rec2 n6 (i64 (n6 - 1))
    else
    rec2 n5 (i64 (n6 - 1))
  else
  (idx p0 n1).bind fun x11 =>
  (app l2 [x11.Stamp]).bind fun v12 =>
  (app l3 [n5]).bind fun v13 =>
  rec1 (i64 (n1 + 1)) v12 v13
def ref16_Canonical_L2 (rec1 : Int → (List GStamp) → (List Int) → Option (List GRegisterEvent × Int)) (p0 : List GRegisterEvent) (n1 : Int) (l2 : List GStamp) (l3 : List Int) : Nat → Int → Int → Option (List GRegisterEvent × Int)
  | 0 => fun _ _ => .none
  | n + 1 => ref16_Canonical_L2_B rec1 p0 n1 l2 l3 (ref16_Canonical_L2 rec1 p0 n1 l2 l3 n)
def ref16_Canonical_L3_B (p0 : List GRegisterEvent) (r14 : List Int × Int) (rec3 : Int → (List GRegisterEvent) → Option (List GRegisterEvent × Int)) (n16 : Int) (l17 : List GRegisterEvent) : Option (List GRegisterEvent × Int) :=
  if (decide (n16 < (r14.1.length : Int))) = true then
    (idx r14.1 n16).bind fun x19 =>
    (idx p0 x19).bind fun x20 =>
    (app l17 [x20]).bind fun v21 =>
    rec3 (i64 (n16 + 1)) v21
  else
  some (l17, 0)
def ref16_Canonical_L3 (p0 : List GRegisterEvent) (r14 : List Int × Int) : Nat → Int → (List GRegisterEvent) → Option (List GRegisterEvent × Int)
  | 0 => fun _ _ => .none
  | n + 1 => ref16_Canonical_L3_B p0 r14 (ref16_Canonical_L3 p0 r14 n)
def ref16_Canonical_L1_B (F : Nat) (p0 : List GRegisterEvent) (rec1 : Int → (List GStamp) → (List Int) → Option (List GRegisterEvent × Int)) (n1 : Int) (l2 : List GStamp) (l3 : List Int) : Option (List GRegisterEvent × Int) :=
  if (decide (n1 < (p0.length : Int))) = true then
    ref16_Canonical_L2 rec1 p0 n1 l2 l3 F n1 (i64 (n1 - 1))
  else
  (ref02_Canonical F l2 l3).bind fun r14 =>
  if (r14.2 != 0) = true then
    some ([], r14.2)
  else
  ref16_Canonical_L3 p0 r14 F 0 ([] : List GRegisterEvent)
def ref16_Canonical_L1 (F : Nat) (p0 : List GRegisterEvent) : Nat → Int → (List GStamp) → (List Int) → Option (List GRegisterEvent × Int)
  | 0 => fun _ _ _ => .none
  | n + 1 => ref16_Canonical_L1_B F p0 (ref16_Canonical_L1 F p0 n)
def ref16_Canonical (F : Nat) (p0 : List GRegisterEvent) : Option (List GRegisterEvent × Int) :=
  ref16_Canonical_L1 F p0 F 0 ([] : List GStamp) ([] : List Int)
def attendance_Check_L2_B (p0 : List GEnrolment) (rec2 : Int → Option Int) (n10 : Int) : Option Int :=
  if (decide (n10 < (p0.length : Int))) = true then
    (idx p0 (i64 (n10 - 1))).bind fun x12 =>
    (idx p0 n10).bind fun x13 =>
    if (decide (x12.Entry.Candidate ≥ x13.Entry.Candidate)) = true then
      some 5
    else
    rec2 (i64 (n10 + 1))
  else
  some 0
def attendance_Check_L2 (p0 : List GEnrolment) : Nat → Int → Option Int
  | 0 => fun _ => .none
  | n + 1 => attendance_Check_L2_B p0 (attendance_Check_L2 p0 n)
def attendance_Check_L1_B (F : Nat) (p0 : List GEnrolment) (rec1 : Int → Option Int) (n2 : Int) : Option Int :=
  if (decide (n2 < (p0.length : Int))) = true then
    (idx p0 n2).bind fun x4 =>
    if ((decide (x4.Entry.Candidate < 0)) || ((decide (x4.Entry.Candidate > 9999)) || ((decide (x4.Entry.Centre < 1)) || (decide (x4.Entry.Centre > 99))))) = true then
      some 2
    else
    rec1 (i64 (n2 + 1))
  else
  attendance_Check_L2 p0 F 1
def attendance_Check_L1 (F : Nat) (p0 : List GEnrolment) : Nat → Int → Option Int
  | 0 => fun _ => .none
  | n + 1 => attendance_Check_L1_B F p0 (attendance_Check_L1 F p0 n)
def attendance_Check (F : Nat) (p0 : List GEnrolment) : Option Int :=
  if (decide ((p0.length : Int) > 60)) = true then
    some 3
  else
  attendance_Check_L1 F p0 F 0
def slices_BinarySearchFunc_Enrolment_Enrolment_int_L1_B (p0 : List GEnrolment) (p1 : Int) (p2 : (GEnrolment → Int → Option Int)) (rec1 : Int → Int → Option (Int × Bool)) (n1 : Int) (n2 : Int) : Option (Int × Bool) :=
  if (decide (n1 < n2)) = true then
    (idx p0 (i64 (shrI .u64 (IntKind.u64.wrap (i64 (n1 + n2))) 1))).bind fun x4 =>
    (p2 x4 p1).bind fun r5 =>
    if (decide (r5 < 0)) = true then
      rec1 (i64 ((i64 (shrI .u64 (IntKind.u64.wrap (i64 (n1 + n2))) 1)) + 1)) n2
    else
    rec1 n1 (i64 (shrI .u64 (IntKind.u64.wrap (i64 (n1 + n2))) 1))
  else
  (if (decide (n1 < (p0.length : Int))) = true then (idx p0 n1).bind fun x10 => (p2 x10 p1).bind fun r11 => some (r11 == 0) else some false).bind fun w8 =>
  some (n1, w8)
def slices_BinarySearchFunc_Enrolment_Enrolment_int_L1 (p0 : List GEnrolment) (p1 : Int) (p2 : (GEnrolment → Int → Option Int)) : Nat → Int → Int → Option (Int × Bool)
  | 0 => fun _ _ => .none
  | n + 1 => slices_BinarySearchFunc_Enrolment_Enrolment_int_L1_B p0 p1 p2 (slices_BinarySearchFunc_Enrolment_Enrolment_int_L1 p0 p1 p2 n)
def slices_BinarySearchFunc_Enrolment_Enrolment_int (F : Nat) (p0 : List GEnrolment) (p1 : Int) (p2 : (GEnrolment → Int → Option Int)) : Option (Int × Bool) :=
  slices_BinarySearchFunc_Enrolment_Enrolment_int_L1 p0 p1 p2 F 0 (p0.length : Int)
def attendance_step_1 (p0 : GEnrolment) (p1 : Int) : Option Int :=
  (cmp_Compare_int p0.Entry.Candidate p1).bind fun r1 =>
  some r1
def attendance_register_present (p0 : List GAttendance) (p0i : Int) (p1 : Int) : Option (Int × List GAttendance) :=
  (idx p0 p0i).bind fun x1 =>
  some (0, (p0.set (p0i).toNat (GAttendance.mk x1.Candidate 1 (-1) (-1) x1.Incidents)))
def attendance_register_absent (p0 : List GAttendance) (p0i : Int) (p1 : Int) : Option (Int × List GAttendance) :=
  (idx p0 p0i).bind fun x1 =>
  some (0, (p0.set (p0i).toNat (GAttendance.mk x1.Candidate 2 (-1) (-1) x1.Incidents)))
def attendance_register_late (p0 : List GAttendance) (p0i : Int) (p1 : Int) : Option (Int × List GAttendance) :=
  (idx p0 p0i).bind fun x1 =>
  some (0, (p0.set (p0i).toNat (GAttendance.mk x1.Candidate 1 p1 x1.Left x1.Incidents)))
def attendance_register_left (p0 : List GAttendance) (p0i : Int) (p1 : Int) : Option (Int × List GAttendance) :=
  (idx p0 p0i).bind fun x1 =>
  if (x1.State != 1) = true then
    some (8, (p0.set (p0i).toNat x1))
  else
  some (0, (p0.set (p0i).toNat (GAttendance.mk x1.Candidate x1.State x1.Late p1 x1.Incidents)))
def attendance_register_incident (p0 : List GAttendance) (p0i : Int) (p1 : Int) : Option (Int × List GAttendance) :=
  (idx p0 p0i).bind fun x1 =>
  if (decide ((x1.Incidents.length : Int) ≥ 8)) = true then
    some (3, (p0.set (p0i).toNat x1))
  else
  (app x1.Incidents [p1]).bind fun v3 =>
  some (0, (p0.set (p0i).toNat (GAttendance.mk x1.Candidate x1.State x1.Late x1.Left v3)))
def attendance_register_handle (p0 : List GAttendance) (p0i : Int) (p1 : GRegisterEvent) : Option (Int × List GAttendance) :=
  (if (p1.Kind == 1) = true then (attendance_register_present p0 p0i p1.Minutes).bind fun r5 => some (r5.1, r5.2) else if (p1.Kind == 2) = true then (attendance_register_absent p0 p0i p1.Minutes).bind fun r7 => some (r7.1, r7.2) else if (p1.Kind == 3) = true then (attendance_register_late p0 p0i p1.Minutes).bind fun r9 => some (r9.1, r9.2) else if (p1.Kind == 4) = true then (attendance_register_left p0 p0i p1.Minutes).bind fun r11 => some (r11.1, r11.2) else if (p1.Kind == 5) = true then (attendance_register_incident p0 p0i p1.Minutes).bind fun r13 => some (r13.1, r13.2) else none).bind fun w3 =>
  some (w3.1, w3.2)
def attendance_step (F : Nat) (p0 : List GEnrolment) (p1 : List GAttendance) (p2 : GRegisterEvent) : Option (Int × List GAttendance) :=
  if ((decide (p2.Kind < 1)) || ((decide (p2.Kind > 5)) || ((decide (p2.Minutes < 0)) || (decide (p2.Minutes > 600))))) = true then
    some (2, p1)
  else
  (slices_BinarySearchFunc_Enrolment_Enrolment_int F p0 p2.Candidate (fun a0 a1 => attendance_step_1 a0 a1)).bind fun r6 =>
  if (!r6.2) = true then
    some (4, p1)
  else
  (if (p2.Stamp.Source != 0) = true then (idx p0 r6.1).bind fun x11 => some (p2.Stamp.Source != x11.Entry.Centre) else some false).bind fun w9 =>
  if w9 = true then
    some (28, p1)
  else
  (idx p1 r6.1).bind fun x13 =>
  (attendance_register_handle p1 r6.1 p2).bind fun r14 =>
  some (r14.1, r14.2)
def attendance_Fold_L2_B (F : Nat) (p0 : List GEnrolment) (p2 : Int) (r3 : List GRegisterEvent × Int) (rec2 : Int → (List GAttendance) → (List GRefusal) → Option (List GAttendance × List GRefusal × Int)) (n11 : Int) (l12 : List GAttendance) (l13 : List GRefusal) : Option (List GAttendance × List GRefusal × Int) :=
  if (decide (n11 < (r3.1.length : Int))) = true then
    (idx r3.1 n11).bind fun x15 =>
    if (decide (x15.Stamp.Time > p2)) = true then
      some (l12, l13, 0)
    else
    (attendance_step F p0 l12 x15).bind fun r17 =>
    if (r17.1 != 0) = true then
      (app l13 [(GRefusal.mk (GIdentity.mk x15.Stamp.Source x15.Stamp.Seq) r17.1)]).bind fun v19 =>
      rec2 (i64 (n11 + 1)) r17.2 v19
    else
    rec2 (i64 (n11 + 1)) r17.2 l13
  else
  some (l12, l13, 0)
def attendance_Fold_L2 (F : Nat) (p0 : List GEnrolment) (p2 : Int) (r3 : List GRegisterEvent × Int) : Nat → Int → (List GAttendance) → (List GRefusal) → Option (List GAttendance × List GRefusal × Int)
  | 0 => fun _ _ _ => .none
  | n + 1 => attendance_Fold_L2_B F p0 p2 r3 (attendance_Fold_L2 F p0 p2 r3 n)
def attendance_Fold_L1_B (F : Nat) (p0 : List GEnrolment) (p2 : Int) (r3 : List GRegisterEvent × Int) (rec1 : Int → (List GAttendance) → Option (List GAttendance × List GRefusal × Int)) (n6 : Int) (l7 : List GAttendance) : Option (List GAttendance × List GRefusal × Int) :=
  if (decide (n6 < (p0.length : Int))) = true then
    (idx p0 n6).bind fun x9 =>
    (idx l7 n6).bind fun x10 =>
    rec1 (i64 (n6 + 1)) (l7.set (n6).toNat (GAttendance.mk x9.Entry.Candidate 0 (-1) (-1) []))
  else
  attendance_Fold_L2 F p0 p2 r3 F 0 l7 ([] : List GRefusal)
def attendance_Fold_L1 (F : Nat) (p0 : List GEnrolment) (p2 : Int) (r3 : List GRegisterEvent × Int) : Nat → Int → (List GAttendance) → Option (List GAttendance × List GRefusal × Int)
  | 0 => fun _ _ => .none
  | n + 1 => attendance_Fold_L1_B F p0 p2 r3 (attendance_Fold_L1 F p0 p2 r3 n)
def attendance_Fold (F : Nat) (p0 : List GEnrolment) (p1 : List GRegisterEvent) (p2 : Int) : Option (List GAttendance × List GRefusal × Int) :=
  (attendance_Check F p0).bind fun r1 =>
  if (r1 != 0) = true then
    some ([], [], r1)
  else
  (attendance_Canonical F p1).bind fun r3 =>
  if (r3.2 != 0) = true then
    some ([], [], r3.2)
  else
  (mkl ((GAttendance.mk 0 0 0 0 []) : GAttendance) (p0.length : Int)).bind fun v5 =>
  attendance_Fold_L1 F p0 p2 r3 F 0 v5
def ref06_Ints_L1_B (p0 : List Int) (p1 : List Int) (rec1 : Int → Option Bool) (n2 : Int) : Option Bool :=
  if (decide (n2 < (p0.length : Int))) = true then
    (idx p0 n2).bind fun x4 =>
    (idx p1 n2).bind fun x5 =>
    if (x4 != x5) = true then
      some false
    else
    rec1 (i64 (n2 + 1))
  else
  some true
def ref06_Ints_L1 (p0 : List Int) (p1 : List Int) : Nat → Int → Option Bool
  | 0 => fun _ => .none
  | n + 1 => ref06_Ints_L1_B p0 p1 (ref06_Ints_L1 p0 p1 n)
def ref06_Ints (F : Nat) (p0 : List Int) (p1 : List Int) : Option Bool :=
  if ((p0.length : Int) != (p1.length : Int)) = true then
    some false
  else
  ref06_Ints_L1 p0 p1 F 0
def ref16_Same (F : Nat) (p0 : GAttendance) (p1 : GAttendance) : Option Bool :=
  (if (p0.Candidate == p1.Candidate) = true then if (p0.State == p1.State) = true then if (p0.Late == p1.Late) = true then if (p0.Left == p1.Left) = true then (ref06_Ints F p0.Incidents p1.Incidents).bind fun r7 => some r7 else some false else some false else some false else some false).bind fun w2 =>
  some w2
def law16_awake (F : Nat) : Option Bool :=
  (attendance_Fold F [(GEnrolment.mk (GEntry.mk 5 7 0) false)] [(GRegisterEvent.mk (GStamp.mk 2 7 1) 3 5 12), (GRegisterEvent.mk (GStamp.mk 1 7 0) 2 5 0), (GRegisterEvent.mk (GStamp.mk 3 7 2) 4 5 60), (GRegisterEvent.mk (GStamp.mk 4 8 0) 2 5 0)] 9).bind fun r1 =>
  (if (r1.2.2 == 0) = true then if ((r1.1.length : Int) == 1) = true then (idx r1.1 0).bind fun x6 => (ref16_Same F x6 (GAttendance.mk 5 1 12 60 ([] : List Int))).bind fun r7 => if r7 = true then if ((r1.2.1.length : Int) == 1) = true then (idx r1.2.1 0).bind fun x10 => some (x10.Code == 28) else some false else some false else some false else some false).bind fun w3 =>
  some w3
def law16_AttendanceCanonical_L1_B (F : Nat) (r2 : List GRegisterEvent × GTape) (r3 : List GRegisterEvent × Int) (r4 : List GRegisterEvent × Int) (rec1 : Int → Option Bool) (n8 : Int) : Option Bool :=
  if (decide (n8 < (r3.1.length : Int))) = true then
    (idx r3.1 n8).bind fun x10 =>
    (idx r4.1 n8).bind fun x11 =>
    if (!(decide (x10 = x11))) = true then
      some false
    else
    rec1 (i64 (n8 + 1))
  else
  if (decide ((r2.1.length : Int) > 0)) = true then
    (GTape_Next r2.2 (r2.1.length : Int)).bind fun r14 =>
    (idx r2.1 r14.1).bind fun x15 =>
    (GTape_Next r14.2 (r2.1.length : Int)).bind fun r16 =>
    (idx r2.1 r16.1).bind fun x17 =>
    ((attendance_Same x15 x17).bind fun r20 => if (r20 == (decide (x15 = x17))) = true then (attendance_Same x15 x15).bind fun r22 => if r22 = true then (law16_awake F).bind fun r24 => some r24 else some false else some false).bind fun w19 =>
    some w19
  else
  (law16_awake F).bind fun r25 =>
  some r25
def law16_AttendanceCanonical_L1 (F : Nat) (r2 : List GRegisterEvent × GTape) (r3 : List GRegisterEvent × Int) (r4 : List GRegisterEvent × Int) : Nat → Int → Option Bool
  | 0 => fun _ => .none
  | n + 1 => law16_AttendanceCanonical_L1_B F r2 r3 r4 (law16_AttendanceCanonical_L1 F r2 r3 r4 n)
def law16_AttendanceCanonical (F : Nat) (p0 : List Int) : Option Bool :=
  (make_New p0).bind fun r1 =>
  (GTape_RegisterEvents F r1 12 4).bind fun r2 =>
  (attendance_Canonical F r2.1).bind fun r3 =>
  (ref16_Canonical F r2.1).bind fun r4 =>
  if (((r3.1.length : Int) != (r4.1.length : Int)) || (r3.2 != r4.2)) = true then
    some false
  else
  law16_AttendanceCanonical_L1 F r2 r3 r4 F 0
def GTape_Enrolled_L1_B (p1 : Int) (rec1 : Int → (List Int) → Int → (List GEnrolment) → Option (List GEnrolment × GTape)) (n1 : Int) (l2 : List Int) (n3 : Int) (l4 : List GEnrolment) : Option (List GEnrolment × GTape) :=
  if (decide (n1 < 5)) = true then
    (GTape_Next (GTape.mk l2 n3) 4).bind fun r6 =>
    if (decide (r6.1 > 0)) = true then
      (GTape_Range r6.2 1 3).bind fun r8 =>
      (app l4 [(GEnrolment.mk (GEntry.mk n1 r8.1 1) false)]).bind fun v9 =>
      rec1 (i64 (n1 + 1)) r8.2.L r8.2.At v9
    else
    rec1 (i64 (n1 + 1)) r6.2.L r6.2.At l4
  else
  (if (decide (p1 > 0)) = true then (GTape_One (GTape.mk l2 n3) p1).bind fun r15 => some (r15.1, r15.2.L, r15.2.At) else some (false, l2, n3)).bind fun w13 =>
  if w13.1 = true then
    (GTape_Pick (GTape.mk w13.2.1 w13.2.2) [0, 5, 9999, 10000, (-1)]).bind fun r17 =>
    (GTape_Pick r17.2 [0, 1, 99, 100]).bind fun r18 =>
    (app l4 [(GEnrolment.mk (GEntry.mk r17.1 r18.1 0) false)]).bind fun v19 =>
    some (v19, r18.2)
  else
  some (l4, (GTape.mk w13.2.1 w13.2.2))
def GTape_Enrolled_L1 (p1 : Int) : Nat → Int → (List Int) → Int → (List GEnrolment) → Option (List GEnrolment × GTape)
  | 0 => fun _ _ _ _ => .none
  | n + 1 => GTape_Enrolled_L1_B p1 (GTape_Enrolled_L1 p1 n)
def GTape_Enrolled (F : Nat) (p0 : GTape) (p1 : Int) : Option (List GEnrolment × GTape) :=
  GTape_Enrolled_L1 p1 F 0 p0.L p0.At ([] : List GEnrolment)
def ref16_Check_L2_B (p0 : List GEnrolment) (rec2 : Int → Option Int) (n10 : Int) : Option Int :=
  if (decide (n10 < (p0.length : Int))) = true then
    (idx p0 (i64 (n10 - 1))).bind fun x12 =>
    (idx p0 n10).bind fun x13 =>
    if (decide (x12.Entry.Candidate ≥ x13.Entry.Candidate)) = true then
      some 5
    else
    rec2 (i64 (n10 + 1))
  else
  some 0
def ref16_Check_L2 (p0 : List GEnrolment) : Nat → Int → Option Int
  | 0 => fun _ => .none
  | n + 1 => ref16_Check_L2_B p0 (ref16_Check_L2 p0 n)
def ref16_Check_L1_B (F : Nat) (p0 : List GEnrolment) (rec1 : Int → Option Int) (n2 : Int) : Option Int :=
  if (decide (n2 < (p0.length : Int))) = true then
    (idx p0 n2).bind fun x4 =>
    if ((decide (x4.Entry.Candidate < 0)) || ((decide (x4.Entry.Candidate > 9999)) || ((decide (x4.Entry.Centre < 1)) || (decide (x4.Entry.Centre > 99))))) = true then
      some 2
    else
    rec1 (i64 (n2 + 1))
  else
  ref16_Check_L2 p0 F 1
def ref16_Check_L1 (F : Nat) (p0 : List GEnrolment) : Nat → Int → Option Int
  | 0 => fun _ => .none
  | n + 1 => ref16_Check_L1_B F p0 (ref16_Check_L1 F p0 n)
def ref16_Check (F : Nat) (p0 : List GEnrolment) : Option Int :=
  if (decide ((p0.length : Int) > 60)) = true then
    some 3
  else
  ref16_Check_L1 F p0 F 0
def law16_AttendanceChecks_L1_B (F : Nat) (p1 : Int) (r2 : List GEnrolment × GTape) (rec1 : Int → (List GEnrolment) → Option Bool) (n3 : Int) (l4 : List GEnrolment) : Option Bool :=
  (make_Cut p1 6).bind fun r5 =>
  if (decide (n3 < (i64 (58 + r5)))) = true then
    (app l4 [(GEnrolment.mk (GEntry.mk n3 1 0) false)]).bind fun v7 =>
    rec1 (i64 (n3 + 1)) v7
  else
  ((attendance_Check F r2.1).bind fun r10 => (ref16_Check F r2.1).bind fun r11 => if (r10 == r11) = true then (attendance_Check F l4).bind fun r13 => (ref16_Check F l4).bind fun r14 => if (r13 == r14) = true then (law16_awake F).bind fun r16 => some r16 else some false else some false).bind fun w9 =>
  some w9
def law16_AttendanceChecks_L1 (F : Nat) (p1 : Int) (r2 : List GEnrolment × GTape) : Nat → Int → (List GEnrolment) → Option Bool
  | 0 => fun _ _ => .none
  | n + 1 => law16_AttendanceChecks_L1_B F p1 r2 (law16_AttendanceChecks_L1 F p1 r2 n)
def law16_AttendanceChecks (F : Nat) (p0 : List Int) (p1 : Int) : Option Bool :=
  (make_New p0).bind fun r1 =>
  (GTape_Enrolled F r1 2).bind fun r2 =>
  law16_AttendanceChecks_L1 F p1 r2 F 0 ([] : List GEnrolment)
def ref16_Index_L1_B (p0 : List GAttendance) (p1 : Int) (rec1 : Int → Option Int) (n1 : Int) : Option Int :=
  if (decide (n1 < (p0.length : Int))) = true then
    (idx p0 n1).bind fun x3 =>
    if (x3.Candidate == p1) = true then
      some n1
    else
    rec1 (i64 (n1 + 1))
  else
  some (-1)
def ref16_Index_L1 (p0 : List GAttendance) (p1 : Int) : Nat → Int → Option Int
  | 0 => fun _ => .none
  | n + 1 => ref16_Index_L1_B p0 p1 (ref16_Index_L1 p0 p1 n)
def ref16_Index (F : Nat) (p0 : List GAttendance) (p1 : Int) : Option Int :=
  ref16_Index_L1 p0 p1 F 0
def ref16_refuses (F : Nat) (p0 : List GEnrolment) (p1 : List GAttendance) (p2 : GRegisterEvent) : Option Int :=
  if ((decide (p2.Kind < 1)) || ((decide (p2.Kind > 5)) || ((decide (p2.Minutes < 0)) || (decide (p2.Minutes > 600))))) = true then
    some 2
  else
  (ref16_Index F p1 p2.Candidate).bind fun r6 =>
  if (decide (r6 < 0)) = true then
    some 4
  else
  (if (p2.Stamp.Source != 0) = true then (idx p0 r6).bind fun x11 => some (p2.Stamp.Source != x11.Entry.Centre) else some false).bind fun w9 =>
  if w9 = true then
    some 28
  else
  (if (p2.Kind == 4) = true then (idx p1 r6).bind fun x16 => some (x16.State != 1) else some false).bind fun w14 =>
  if w14 = true then
    some 8
  else
  (if (p2.Kind == 5) = true then (idx p1 r6).bind fun x21 => some (decide ((x21.Incidents.length : Int) ≥ 8)) else some false).bind fun w19 =>
  if w19 = true then
    some 3
  else
  some 0
def ref16_after (p0 : GAttendance) (p1 : GRegisterEvent) : Option GAttendance :=
  if (p1.Kind == 1) = true then
    some (GAttendance.mk p0.Candidate 1 (-1) (-1) p0.Incidents)
  else
  if (p1.Kind == 2) = true then
    some (GAttendance.mk p0.Candidate 2 (-1) (-1) p0.Incidents)
  else
  if (p1.Kind == 3) = true then
    some (GAttendance.mk p0.Candidate 1 p1.Minutes p0.Left p0.Incidents)
  else
  if (p1.Kind == 4) = true then
    some (GAttendance.mk p0.Candidate p0.State p0.Late p1.Minutes p0.Incidents)
  else
  if (p1.Kind == 5) = true then
    (app [] p0.Incidents).bind fun v6 =>
    (app v6 [p1.Minutes]).bind fun v7 =>
    some (GAttendance.mk p0.Candidate p0.State p0.Late p0.Left v7)
  else
  some p0
def ref16_Fold_L2_B (F : Nat) (p0 : List GEnrolment) (p2 : Int) (r3 : List GRegisterEvent × Int) (rec2 : Int → (List GAttendance) → (List GRefusal) → Option (List GAttendance × List GRefusal × Int)) (n10 : Int) (l11 : List GAttendance) (l12 : List GRefusal) : Option (List GAttendance × List GRefusal × Int) :=
  if (decide (n10 < (r3.1.length : Int))) = true then
    (idx r3.1 n10).bind fun x14 =>
    if (decide (x14.Stamp.Time > p2)) = true then
      rec2 (i64 (n10 + 1)) l11 l12
    else
    (idx r3.1 n10).bind fun x16 =>
    (ref16_refuses F p0 l11 x16).bind fun r17 =>
    if (r17 != 0) = true then
      (idx r3.1 n10).bind fun x19 =>
      (idx r3.1 n10).bind fun x20 =>
      (app l12 [(GRefusal.mk (GIdentity.mk x19.Stamp.Source x20.Stamp.Seq) r17)]).bind fun v21 =>
      rec2 (i64 (n10 + 1)) l11 v21
    else
    (idx r3.1 n10).bind fun x22 =>
    (ref16_Index F l11 x22.Candidate).bind fun r23 =>
    (idx l11 r23).bind fun x24 =>
    (idx r3.1 n10).bind fun x25 =>
    (ref16_after x24 x25).bind fun r26 =>
    (idx l11 r23).bind fun x27 =>
    rec2 (i64 (n10 + 1)) (l11.set r23.toNat r26) l12
  else
  some (l11, l12, 0)
def ref16_Fold_L2 (F : Nat) (p0 : List GEnrolment) (p2 : Int) (r3 : List GRegisterEvent × Int) : Nat → Int → (List GAttendance) → (List GRefusal) → Option (List GAttendance × List GRefusal × Int)
  | 0 => fun _ _ _ => .none
  | n + 1 => ref16_Fold_L2_B F p0 p2 r3 (ref16_Fold_L2 F p0 p2 r3 n)
def ref16_Fold_L1_B (F : Nat) (p0 : List GEnrolment) (p2 : Int) (r3 : List GRegisterEvent × Int) (rec1 : Int → (List GAttendance) → Option (List GAttendance × List GRefusal × Int)) (n5 : Int) (l6 : List GAttendance) : Option (List GAttendance × List GRefusal × Int) :=
  if (decide (n5 < (p0.length : Int))) = true then
    (idx p0 n5).bind fun x8 =>
    (app l6 ([(GAttendance.mk x8.Entry.Candidate 0 (-1) (-1) [])])).bind fun v9 =>
    rec1 (i64 (n5 + 1)) v9
  else
  ref16_Fold_L2 F p0 p2 r3 F 0 l6 ([] : List GRefusal)
def ref16_Fold_L1 (F : Nat) (p0 : List GEnrolment) (p2 : Int) (r3 : List GRegisterEvent × Int) : Nat → Int → (List GAttendance) → Option (List GAttendance × List GRefusal × Int)
  | 0 => fun _ _ => .none
  | n + 1 => ref16_Fold_L1_B F p0 p2 r3 (ref16_Fold_L1 F p0 p2 r3 n)
def ref16_Fold (F : Nat) (p0 : List GEnrolment) (p1 : List GRegisterEvent) (p2 : Int) : Option (List GAttendance × List GRefusal × Int) :=
  (ref16_Check F p0).bind fun r1 =>
  if (r1 != 0) = true then
    some ([], [], r1)
  else
  (ref16_Canonical F p1).bind fun r3 =>
  if (r3.2 != 0) = true then
    some ([], [], r3.2)
  else
  ref16_Fold_L1 F p0 p2 r3 F 0 ([] : List GAttendance)
def law16_same_L1_B (F : Nat) (p0 : List GAttendance) (p1 : List GAttendance) (rec1 : Int → Option Bool) (n2 : Int) : Option Bool :=
  if (decide (n2 < (p0.length : Int))) = true then
    (idx p0 n2).bind fun x4 =>
    (idx p1 n2).bind fun x5 =>
    (ref16_Same F x4 x5).bind fun r6 =>
    if (!r6) = true then
      some false
    else
    rec1 (i64 (n2 + 1))
  else
  some true
def law16_same_L1 (F : Nat) (p0 : List GAttendance) (p1 : List GAttendance) : Nat → Int → Option Bool
  | 0 => fun _ => .none
  | n + 1 => law16_same_L1_B F p0 p1 (law16_same_L1 F p0 p1 n)
def law16_same (F : Nat) (p0 : List GAttendance) (p1 : List GAttendance) : Option Bool :=
  if ((p0.length : Int) != (p1.length : Int)) = true then
    some false
  else
  law16_same_L1 F p0 p1 F 0
def law16_refusals_L1_B (p0 : List GRefusal) (p1 : List GRefusal) (rec1 : Int → Option Bool) (n2 : Int) : Option Bool :=
  if (decide (n2 < (p0.length : Int))) = true then
    (idx p0 n2).bind fun x4 =>
    (idx p1 n2).bind fun x5 =>
    if (!(decide (x4 = x5))) = true then
      some false
    else
    rec1 (i64 (n2 + 1))
  else
  some true
def law16_refusals_L1 (p0 : List GRefusal) (p1 : List GRefusal) : Nat → Int → Option Bool
  | 0 => fun _ => .none
  | n + 1 => law16_refusals_L1_B p0 p1 (law16_refusals_L1 p0 p1 n)
def law16_refusals (F : Nat) (p0 : List GRefusal) (p1 : List GRefusal) : Option Bool :=
  if ((p0.length : Int) != (p1.length : Int)) = true then
    some false
  else
  law16_refusals_L1 p0 p1 F 0
def law16_AttendanceFolds_L1_B (F : Nat) (r2 : List GEnrolment × GTape) (r3 : List GRegisterEvent × GTape) (rec1 : Int → Int → (List Int) → Int → Option Bool) (n4 : Int) (n5 : Int) (l6 : List Int) (n7 : Int) : Option Bool :=
  if (decide (n5 < 2)) = true then
    (attendance_Fold F r2.1 r3.1 n4).bind fun r9 =>
    (ref16_Fold F r2.1 r3.1 n4).bind fun r10 =>
    ((law16_same F r9.1 r10.1).bind fun r13 => if (!r13) = true then some true else (law16_refusals F r9.2.1 r10.2.1).bind fun r15 => if (!r15) = true then some true else some (r9.2.2 != r10.2.2)).bind fun w12 =>
    if w12 = true then
      some false
    else
    (GTape_Range (GTape.mk l6 n7) 0 30).bind fun r18 =>
    rec1 r18.1 (i64 (n5 + 1)) r18.2.L r18.2.At
  else
  (law16_awake F).bind fun r19 =>
  some r19
def law16_AttendanceFolds_L1 (F : Nat) (r2 : List GEnrolment × GTape) (r3 : List GRegisterEvent × GTape) : Nat → Int → Int → (List Int) → Int → Option Bool
  | 0 => fun _ _ _ _ => .none
  | n + 1 => law16_AttendanceFolds_L1_B F r2 r3 (law16_AttendanceFolds_L1 F r2 r3 n)
def law16_AttendanceFolds (F : Nat) (p0 : List Int) (p1 : Int) : Option Bool :=
  (make_New p0).bind fun r1 =>
  (GTape_Enrolled F r1 10).bind fun r2 =>
  (GTape_RegisterEvents F r2.2 14 5).bind fun r3 =>
  law16_AttendanceFolds_L1 F r2 r3 F p1 0 r3.2.L r3.2.At
def law16_AttendanceIncidents_L3_B (F : Nat) (r7 : List GAttendance × List GRefusal × Int) (rec3 : Int → Option Bool) (n24 : Int) : Option Bool :=
  if (decide (n24 < (r7.2.1.length : Int))) = true then
    (idx r7.2.1 n24).bind fun x26 =>
    if (!(decide (x26 = (GRefusal.mk (GIdentity.mk 2 (i64 (8 + n24))) 3)))) = true then
      some false
    else
    rec3 (i64 (n24 + 1))
  else
  (law16_awake F).bind fun r28 =>
  some r28
def law16_AttendanceIncidents_L3 (F : Nat) (r7 : List GAttendance × List GRefusal × Int) : Nat → Int → Option Bool
  | 0 => fun _ => .none
  | n + 1 => law16_AttendanceIncidents_L3_B F r7 (law16_AttendanceIncidents_L3 F r7 n)
def law16_AttendanceIncidents_L2_B (F : Nat) (p1 : Int) (r7 : List GAttendance × List GRefusal × Int) (rec2 : Int → Option Bool) (n17 : Int) : Option Bool :=
  (idx r7.1 0).bind fun x18 =>
  if (decide (n17 < (x18.Incidents.length : Int))) = true then
    (idx r7.1 0).bind fun x20 =>
    (idx x20.Incidents n17).bind fun x21 =>
    (make_Cut p1 500).bind fun r22 =>
    if (x21 != (i64 (n17 + r22))) = true then
      some false
    else
    rec2 (i64 (n17 + 1))
  else
  law16_AttendanceIncidents_L3 F r7 F 0
def law16_AttendanceIncidents_L2 (F : Nat) (p1 : Int) (r7 : List GAttendance × List GRefusal × Int) : Nat → Int → Option Bool
  | 0 => fun _ => .none
  | n + 1 => law16_AttendanceIncidents_L2_B F p1 r7 (law16_AttendanceIncidents_L2 F p1 r7 n)
def law16_AttendanceIncidents_L1_B (F : Nat) (p1 : Int) (r1 : Int) (rec1 : Int → (List GRegisterEvent) → Option Bool) (n2 : Int) (l3 : List GRegisterEvent) : Option Bool :=
  if (decide (n2 ≥ 0)) = true then
    (make_Cut p1 500).bind fun r5 =>
    (app l3 [(GRegisterEvent.mk (GStamp.mk n2 2 n2) 5 1 (i64 (n2 + r5)))]).bind fun v6 =>
    rec1 (i64 (n2 - 1)) v6
  else
  (attendance_Fold F [(GEnrolment.mk (GEntry.mk 1 2 0) false)] l3 100).bind fun r7 =>
  (if (r7.2.2 != 0) = true then some true else if ((r7.1.length : Int) != 1) = true then some true else (idx r7.1 0).bind fun x12 => if ((x12.Incidents.length : Int) != (min r1 8)) = true then some true else if ((r7.2.1.length : Int) != (max (i64 (r1 - 8)) 0)) = true then some true else (idx r7.1 0).bind fun x15 => some (x15.State != 0)).bind fun w9 =>
  if w9 = true then
    some false
  else
  law16_AttendanceIncidents_L2 F p1 r7 F 0
def law16_AttendanceIncidents_L1 (F : Nat) (p1 : Int) (r1 : Int) : Nat → Int → (List GRegisterEvent) → Option Bool
  | 0 => fun _ _ => .none
  | n + 1 => law16_AttendanceIncidents_L1_B F p1 r1 (law16_AttendanceIncidents_L1 F p1 r1 n)
def law16_AttendanceIncidents (F : Nat) (p0 : Int) (p1 : Int) : Option Bool :=
  (make_Cut p0 12).bind fun r1 =>
  law16_AttendanceIncidents_L1 F p1 r1 F (i64 (r1 - 1)) ([] : List GRegisterEvent)
def GTape_Order_L1_B (p1 : Int) (rec1 : (List Int) → Int → (List Int) → Int → Option (List Int × GTape)) (l1 : List Int) (n2 : Int) (l3 : List Int) (n4 : Int) : Option (List Int × GTape) :=
  if (decide (n2 < p1)) = true then
    (GTape_Next (GTape.mk l3 n4) (i64 (n2 + 1))).bind fun r6 =>
    (slc l1 0 r6.1).bind fun v7 =>
    (app [] v7).bind fun v8 =>
    (app v8 [n2]).bind fun v9 =>
    (slc l1 r6.1 (l1.length : Int)).bind fun v10 =>
    (app v9 v10).bind fun v11 =>
    rec1 v11 (i64 (n2 + 1)) r6.2.L r6.2.At
  else
  some (l1, (GTape.mk l3 n4))
def GTape_Order_L1 (p1 : Int) : Nat → (List Int) → Int → (List Int) → Int → Option (List Int × GTape)
  | 0 => fun _ _ _ _ => .none
  | n + 1 => GTape_Order_L1_B p1 (GTape_Order_L1 p1 n)
def GTape_Order (F : Nat) (p0 : GTape) (p1 : Int) : Option (List Int × GTape) :=
  GTape_Order_L1 p1 F ([] : List Int) 0 p0.L p0.At
def GTape_Mixed_L1_B (p1 : Int) (rec1 : (List Int) → Int → (List Int) → Int → Option (List Int × GTape)) (l3 : List Int) (n4 : Int) (l5 : List Int) (n6 : Int) : Option (List Int × GTape) :=
  if ((decide (n4 > 0)) && (decide (p1 > 0))) = true then
    (GTape_Next (GTape.mk l5 n6) (i64 ((l3.length : Int) + 1))).bind fun r10 =>
    (GTape_Next r10.2 p1).bind fun r11 =>
    (slc l3 0 r10.1).bind fun v12 =>
    (app [] v12).bind fun v13 =>
    (app v13 [r11.1]).bind fun v14 =>
    (slc l3 r10.1 (l3.length : Int)).bind fun v15 =>
    (app v14 v15).bind fun v16 =>
    rec1 v16 (i64 (n4 - 1)) r11.2.L r11.2.At
  else
  some (l3, (GTape.mk l5 n6))
def GTape_Mixed_L1 (p1 : Int) : Nat → (List Int) → Int → (List Int) → Int → Option (List Int × GTape)
  | 0 => fun _ _ _ _ => .none
  | n + 1 => GTape_Mixed_L1_B p1 (GTape_Mixed_L1 p1 n)
def GTape_Mixed (F : Nat) (p0 : GTape) (p1 : Int) : Option (List Int × GTape) :=
  (GTape_Order F p0 p1).bind fun r1 =>
  (GTape_Next r1.2 4).bind fun r2 =>
  GTape_Mixed_L1 p1 F r1.1 r2.1 r2.2.L r2.2.At
def law16_AttendanceAnyOrder_L1_B (F : Nat) (r2 : List GEnrolment × GTape) (r3 : List GRegisterEvent × GTape) (r4 : List Int × GTape) (rec1 : Int → (List GRegisterEvent) → Option Bool) (n5 : Int) (l6 : List GRegisterEvent) : Option Bool :=
  if (decide (n5 < (r4.1.length : Int))) = true then
    (idx r4.1 n5).bind fun x8 =>
    (idx r3.1 x8).bind fun x9 =>
    (app l6 [x9]).bind fun v10 =>
    rec1 (i64 (n5 + 1)) v10
  else
  (attendance_Fold F r2.1 r3.1 1000000).bind fun r11 =>
  (attendance_Fold F r2.1 l6 1000000).bind fun r12 =>
  (if (r11.2.2 == 0) = true then if (r12.2.2 == 0) = true then (law16_same F r11.1 r12.1).bind fun r17 => if r17 = true then (law16_refusals F r11.2.1 r12.2.1).bind fun r19 => if r19 = true then (law16_awake F).bind fun r21 => some r21 else some false else some false else some false else some false).bind fun w14 =>
  some w14
def law16_AttendanceAnyOrder_L1 (F : Nat) (r2 : List GEnrolment × GTape) (r3 : List GRegisterEvent × GTape) (r4 : List Int × GTape) : Nat → Int → (List GRegisterEvent) → Option Bool
  | 0 => fun _ _ => .none
  | n + 1 => law16_AttendanceAnyOrder_L1_B F r2 r3 r4 (law16_AttendanceAnyOrder_L1 F r2 r3 r4 n)
def law16_AttendanceAnyOrder (F : Nat) (p0 : List Int) : Option Bool :=
  (make_New p0).bind fun r1 =>
  (GTape_Enrolled F r1 0).bind fun r2 =>
  (GTape_RegisterEvents F r2.2 10 8).bind fun r3 =>
  (GTape_Mixed F r3.2 (r3.1.length : Int)).bind fun r4 =>
  law16_AttendanceAnyOrder_L1 F r2 r3 r4 F 0 ([] : List GRegisterEvent)
def law16_refused_L1_B (p0 : List GRefusal) (p1 : GRegisterEvent) (rec1 : Int → Option Bool) (n1 : Int) : Option Bool :=
  if (decide (n1 < (p0.length : Int))) = true then
    (idx p0 n1).bind fun x3 =>
    if (decide (x3.Event = (GIdentity.mk p1.Stamp.Source p1.Stamp.Seq))) = true then
      some true
    else
    rec1 (i64 (n1 + 1))
  else
  some false
def law16_refused_L1 (p0 : List GRefusal) (p1 : GRegisterEvent) : Nat → Int → Option Bool
  | 0 => fun _ => .none
  | n + 1 => law16_refused_L1_B p0 p1 (law16_refused_L1 p0 p1 n)
def law16_refused (F : Nat) (p0 : List GRefusal) (p1 : GRegisterEvent) : Option Bool :=
  law16_refused_L1 p0 p1 F 0
def law16_AttendanceLast_L2_B (rec1 : Int → Option Bool) (F : Nat) (r4 : List GAttendance × List GRefusal × Int) (r5 : List GRegisterEvent × Int) (n10 : Int) (rec2 : Int → Int → Option Bool) (n12 : Int) (n13 : Int) : Option Bool :=
  if (decide (n13 < (r5.1.length : Int))) = true then
    ((idx r5.1 n13).bind fun x17 => (idx r4.1 n10).bind fun x18 => if (x17.Candidate != x18.Candidate) = true then some true else (idx r5.1 n13).bind fun x20 => (law16_refused F r4.2.1 x20).bind fun r21 => some r21).bind fun w16 =>
    if w16 = true then
      rec2 n12 (i64 (n13 + 1))
    else
    ((idx r5.1 n13).bind fun x25 => if (x25.Kind == 1) = true then some true else (idx r5.1 n13).bind fun x27 => some (x27.Kind == 3)).bind fun w24 =>
    if w24 = true then
      (idx r5.1 n13).bind fun x29 =>
      if (x29.Kind == 2) = true then
        rec2 2 (i64 (n13 + 1))
      else
      rec2 1 (i64 (n13 + 1))
    else
    (idx r5.1 n13).bind fun x31 =>
    if (x31.Kind == 2) = true then
      rec2 2 (i64 (n13 + 1))
    else
    rec2 n12 (i64 (n13 + 1))
  else
  ((idx r4.1 n10).bind fun x35 => if (x35.State != n12) = true then some true else if (n12 != 1) = true then (idx r4.1 n10).bind fun x38 => if (x38.Left != (-1)) = true then some true else (idx r4.1 n10).bind fun x40 => some (x40.Late != (-1)) else some false).bind fun w34 =>
  if w34 = true then
    some false
  else
  rec1 (i64 (n10 + 1))
def law16_AttendanceLast_L2 (rec1 : Int → Option Bool) (F : Nat) (r4 : List GAttendance × List GRefusal × Int) (r5 : List GRegisterEvent × Int) (n10 : Int) : Nat → Int → Int → Option Bool
  | 0 => fun _ _ => .none
  | n + 1 => law16_AttendanceLast_L2_B rec1 F r4 r5 n10 (law16_AttendanceLast_L2 rec1 F r4 r5 n10 n)
def law16_AttendanceLast_L1_B (F : Nat) (r4 : List GAttendance × List GRefusal × Int) (r5 : List GRegisterEvent × Int) (rec1 : Int → Option Bool) (n10 : Int) : Option Bool :=
  if (decide (n10 < (r4.1.length : Int))) = true then
    law16_AttendanceLast_L2 rec1 F r4 r5 n10 F 0 0
  else
  (law16_awake F).bind fun r42 =>
  some r42
def law16_AttendanceLast_L1 (F : Nat) (r4 : List GAttendance × List GRefusal × Int) (r5 : List GRegisterEvent × Int) : Nat → Int → Option Bool
  | 0 => fun _ => .none
  | n + 1 => law16_AttendanceLast_L1_B F r4 r5 (law16_AttendanceLast_L1 F r4 r5 n)
def law16_AttendanceLast (F : Nat) (p0 : List Int) : Option Bool :=
  (make_New p0).bind fun r1 =>
  (GTape_Enrolled F r1 0).bind fun r2 =>
  (GTape_RegisterEvents F r2.2 14 6).bind fun r3 =>
  (attendance_Fold F r2.1 r3.1 1000000).bind fun r4 =>
  (attendance_Canonical F r3.1).bind fun r5 =>
  if ((r4.2.2 != 0) || ((r5.2 != 0) || ((r4.1.length : Int) != (r2.1.length : Int)))) = true then
    some false
  else
  law16_AttendanceLast_L1 F r4 r5 F 0
def law16_AttendanceOwn_L2_B (F : Nat) (r2 : List GEnrolment × GTape) (r4 : Int) (r13 : List GAttendance × List GRefusal × Int) (r14 : List GAttendance × List GRefusal × Int) (rec2 : Int → Option Bool) (n21 : Int) : Option Bool :=
  if (decide (n21 < (r2.1.length : Int))) = true then
    ((idx r2.1 n21).bind fun x25 => if (x25.Entry.Centre != (i64 (1 + r4))) = true then (idx r13.1 n21).bind fun x27 => (idx r14.1 n21).bind fun x28 => (ref16_Same F x27 x28).bind fun r29 => some (!r29) else some false).bind fun w24 =>
    if w24 = true then
      some false
    else
    rec2 (i64 (n21 + 1))
  else
  (law16_awake F).bind fun r31 =>
  some r31
def law16_AttendanceOwn_L2 (F : Nat) (r2 : List GEnrolment × GTape) (r4 : Int) (r13 : List GAttendance × List GRefusal × Int) (r14 : List GAttendance × List GRefusal × Int) : Nat → Int → Option Bool
  | 0 => fun _ => .none
  | n + 1 => law16_AttendanceOwn_L2_B F r2 r4 r13 r14 (law16_AttendanceOwn_L2 F r2 r4 r13 r14 n)
def law16_AttendanceOwn_L1_B (F : Nat) (r2 : List GEnrolment × GTape) (r3 : List GRegisterEvent × GTape) (r4 : Int) (r5 : List GRegisterEvent × Int) (rec1 : Int → (List GRegisterEvent) → Option Bool) (n6 : Int) (l7 : List GRegisterEvent) : Option Bool :=
  if (decide (n6 < (r5.1.length : Int))) = true then
    (idx r5.1 n6).bind fun x9 =>
    if (x9.Stamp.Source != (i64 (1 + r4))) = true then
      (idx r5.1 n6).bind fun x11 =>
      (app l7 [x11]).bind fun v12 =>
      rec1 (i64 (n6 + 1)) v12
    else
    rec1 (i64 (n6 + 1)) l7
  else
  (attendance_Fold F r2.1 r3.1 1000000).bind fun r13 =>
  (attendance_Fold F r2.1 l7 1000000).bind fun r14 =>
  if ((r13.2.2 != 0) || ((r5.2 != 0) || ((r14.2.2 != 0) || (((r13.1.length : Int) != (r2.1.length : Int)) || ((r14.1.length : Int) != (r2.1.length : Int)))))) = true then
    some false
  else
  law16_AttendanceOwn_L2 F r2 r4 r13 r14 F 0
def law16_AttendanceOwn_L1 (F : Nat) (r2 : List GEnrolment × GTape) (r3 : List GRegisterEvent × GTape) (r4 : Int) (r5 : List GRegisterEvent × Int) : Nat → Int → (List GRegisterEvent) → Option Bool
  | 0 => fun _ _ => .none
  | n + 1 => law16_AttendanceOwn_L1_B F r2 r3 r4 r5 (law16_AttendanceOwn_L1 F r2 r3 r4 r5 n)
def law16_AttendanceOwn (F : Nat) (p0 : List Int) (p1 : Int) : Option Bool :=
  (make_New p0).bind fun r1 =>
  (GTape_Enrolled F r1 0).bind fun r2 =>
  (GTape_RegisterEvents F r2.2 12 8).bind fun r3 =>
  (make_Cut p1 3).bind fun r4 =>
  (attendance_Canonical F r3.1).bind fun r5 =>
  law16_AttendanceOwn_L1 F r2 r3 r4 r5 F 0 ([] : List GRegisterEvent)
def GTape_Ints_L1_B (p2 : Int) (p3 : Int) (rec1 : Int → (List Int) → Int → (List Int) → Option (List Int × GTape)) (n2 : Int) (l3 : List Int) (n4 : Int) (l5 : List Int) : Option (List Int × GTape) :=
  if (decide (n2 > 0)) = true then
    (GTape_Range (GTape.mk l3 n4) p2 p3).bind fun r7 =>
    (app l5 [r7.1]).bind fun v8 =>
    rec1 (i64 (n2 - 1)) r7.2.L r7.2.At v8
  else
  some (l5, (GTape.mk l3 n4))
def GTape_Ints_L1 (p2 : Int) (p3 : Int) : Nat → Int → (List Int) → Int → (List Int) → Option (List Int × GTape)
  | 0 => fun _ _ _ _ => .none
  | n + 1 => GTape_Ints_L1_B p2 p3 (GTape_Ints_L1 p2 p3 n)
def GTape_Ints (F : Nat) (p0 : GTape) (p1 : Int) (p2 : Int) (p3 : Int) : Option (List Int × GTape) :=
  (GTape_Range p0 0 p1).bind fun r1 =>
  GTape_Ints_L1 p2 p3 F r1.1 r1.2.L r1.2.At ([] : List Int)
def attendance_Compare_L2_B (p0 : List GAttendance) (m2 : List (Int × Bool)) (rec2 : Int → (List Int) → (List Int) → Option (List Int × List Int)) (n5 : Int) (l6 : List Int) (l7 : List Int) : Option (List Int × List Int) :=
  if (decide (n5 < (p0.length : Int))) = true then
    (idx p0 n5).bind fun x9 =>
    if ((x9.State == 1) && (!((mget m2 x9.Candidate).getD false))) = true then
      (app l6 [x9.Candidate]).bind fun v13 =>
      rec2 (i64 (n5 + 1)) v13 l7
    else
    if ((!(x9.State == 1)) && ((mget m2 x9.Candidate).getD false)) = true then
      (app l7 [x9.Candidate]).bind fun v17 =>
      rec2 (i64 (n5 + 1)) l6 v17
    else
    rec2 (i64 (n5 + 1)) l6 l7
  else
  some (l6, l7)
def attendance_Compare_L2 (p0 : List GAttendance) (m2 : List (Int × Bool)) : Nat → Int → (List Int) → (List Int) → Option (List Int × List Int)
  | 0 => fun _ _ _ => .none
  | n + 1 => attendance_Compare_L2_B p0 m2 (attendance_Compare_L2 p0 m2 n)
def attendance_Compare_L1_B (F : Nat) (p0 : List GAttendance) (p1 : List Int) (rec1 : Int → (List (Int × Bool)) → Option (List Int × List Int)) (n1 : Int) (m2 : List (Int × Bool)) : Option (List Int × List Int) :=
  if (decide (n1 < (p1.length : Int))) = true then
    (idx p1 n1).bind fun x4 =>
    rec1 (i64 (n1 + 1)) (mput m2 x4 true)
  else
  attendance_Compare_L2 p0 m2 F 0 ([] : List Int) ([] : List Int)
def attendance_Compare_L1 (F : Nat) (p0 : List GAttendance) (p1 : List Int) : Nat → Int → (List (Int × Bool)) → Option (List Int × List Int)
  | 0 => fun _ _ => .none
  | n + 1 => attendance_Compare_L1_B F p0 p1 (attendance_Compare_L1 F p0 p1 n)
def attendance_Compare (F : Nat) (p0 : List GAttendance) (p1 : List Int) : Option (List Int × List Int) :=
  attendance_Compare_L1 F p0 p1 F 0 ([] : List (Int × Bool))
def ref06_Has_L1_B (p0 : List Int) (p1 : Int) (rec1 : Int → Option Bool) (n1 : Int) : Option Bool :=
  if (decide (n1 < (p0.length : Int))) = true then
    (idx p0 n1).bind fun x3 =>
    if (x3 == p1) = true then
      some true
    else
    rec1 (i64 (n1 + 1))
  else
  some false
def ref06_Has_L1 (p0 : List Int) (p1 : Int) : Nat → Int → Option Bool
  | 0 => fun _ => .none
  | n + 1 => ref06_Has_L1_B p0 p1 (ref06_Has_L1 p0 p1 n)
def ref06_Has (F : Nat) (p0 : List Int) (p1 : Int) : Option Bool :=
  ref06_Has_L1 p0 p1 F 0
def ref16_Compare_J2 (rec1 : Int → (List Int) → (List Int) → Option (List Int × List Int)) (p0 : List GAttendance) (n1 : Int) (l3 : List Int) (r6 : Bool) (l7 : List Int) : Option (List Int × List Int) :=
  ((idx p0 n1).bind fun x10 => if (x10.State != 1) = true then some r6 else some false).bind fun w9 =>
  if w9 = true then
    (idx p0 n1).bind fun x13 =>
    (app l3 [x13.Candidate]).bind fun v14 =>
    rec1 (i64 (n1 + 1)) l7 v14
  else
  rec1 (i64 (n1 + 1)) l7 l3
def ref16_Compare_L1_B (F : Nat) (p0 : List GAttendance) (p1 : List Int) (rec1 : Int → (List Int) → (List Int) → Option (List Int × List Int)) (n1 : Int) (l2 : List Int) (l3 : List Int) : Option (List Int × List Int) :=
  if (decide (n1 < (p0.length : Int))) = true then
    (idx p0 n1).bind fun x5 =>
    (ref06_Has F p1 x5.Candidate).bind fun r6 =>
    ((idx p0 n1).bind fun x17 => if (x17.State == 1) = true then some (!r6) else some false).bind fun w16 =>
    if w16 = true then
      (idx p0 n1).bind fun x20 =>
      (app l2 [x20.Candidate]).bind fun v21 =>
      ref16_Compare_J2 rec1 p0 n1 l3 r6 v21
    else
    ref16_Compare_J2 rec1 p0 n1 l3 r6 l2
  else
  some (l2, l3)
def ref16_Compare_L1 (F : Nat) (p0 : List GAttendance) (p1 : List Int) : Nat → Int → (List Int) → (List Int) → Option (List Int × List Int)
  | 0 => fun _ _ _ => .none
  | n + 1 => ref16_Compare_L1_B F p0 p1 (ref16_Compare_L1 F p0 p1 n)
def ref16_Compare (F : Nat) (p0 : List GAttendance) (p1 : List Int) : Option (List Int × List Int) :=
  ref16_Compare_L1 F p0 p1 F 0 ([] : List Int) ([] : List Int)
def attendance_Present_L1_B (p0 : List GAttendance) (rec1 : Int → (List Int) → Option (List Int)) (n1 : Int) (l2 : List Int) : Option (List Int) :=
  if (decide (n1 < (p0.length : Int))) = true then
    (idx p0 n1).bind fun x4 =>
    if (x4.State == 1) = true then
      (app l2 [x4.Candidate]).bind fun v6 =>
      rec1 (i64 (n1 + 1)) v6
    else
    rec1 (i64 (n1 + 1)) l2
  else
  some l2
def attendance_Present_L1 (p0 : List GAttendance) : Nat → Int → (List Int) → Option (List Int)
  | 0 => fun _ _ => .none
  | n + 1 => attendance_Present_L1_B p0 (attendance_Present_L1 p0 n)
def attendance_Present (F : Nat) (p0 : List GAttendance) : Option (List Int) :=
  attendance_Present_L1 p0 F 0 ([] : List Int)
def ref16_Present_L1_B (p0 : List GAttendance) (rec1 : Int → (List Int) → Option (List Int)) (n1 : Int) (l2 : List Int) : Option (List Int) :=
  if (decide (n1 < (p0.length : Int))) = true then
    (idx p0 n1).bind fun x4 =>
    if (x4.State == 1) = true then
      (idx p0 n1).bind fun x6 =>
      (app l2 [x6.Candidate]).bind fun v7 =>
      rec1 (i64 (n1 + 1)) v7
    else
    rec1 (i64 (n1 + 1)) l2
  else
  some l2
def ref16_Present_L1 (p0 : List GAttendance) : Nat → Int → (List Int) → Option (List Int)
  | 0 => fun _ _ => .none
  | n + 1 => ref16_Present_L1_B p0 (ref16_Present_L1 p0 n)
def ref16_Present (F : Nat) (p0 : List GAttendance) : Option (List Int) :=
  ref16_Present_L1 p0 F 0 ([] : List Int)
def law16_AttendanceCompares (F : Nat) (p0 : List GAttendance) (p1 : List Int) (p2 : List Int) : Option Bool :=
  if ((decide ((p0.length : Int) > 30)) || (decide ((p1.length : Int) > 60))) = true then
    some true
  else
  (make_New p2).bind fun r4 =>
  (GTape_Enrolled F r4 0).bind fun r5 =>
  (GTape_RegisterEvents F r5.2 10 0).bind fun r6 =>
  (ref16_Fold F r5.1 r6.1 30).bind fun r7 =>
  (GTape_Ints F r6.2 6 0 5).bind fun r8 =>
  (attendance_Compare F p0 p1).bind fun r9 =>
  (ref16_Compare F p0 p1).bind fun r10 =>
  (attendance_Compare F r7.1 r8.1).bind fun r11 =>
  (ref16_Compare F r7.1 r8.1).bind fun r12 =>
  ((ref06_Ints F r9.1 r10.1).bind fun r15 => if r15 = true then (ref06_Ints F r9.2 r10.2).bind fun r17 => if r17 = true then (ref06_Ints F r11.1 r12.1).bind fun r19 => if r19 = true then (ref06_Ints F r11.2 r12.2).bind fun r21 => if r21 = true then (attendance_Present F p0).bind fun r23 => (ref16_Present F p0).bind fun r24 => (ref06_Ints F r23 r24).bind fun r25 => if r25 = true then (attendance_Present F r7.1).bind fun r27 => (ref16_Present F r7.1).bind fun r28 => (ref06_Ints F r27 r28).bind fun r29 => if r29 = true then (law16_awake F).bind fun r31 => some r31 else some false else some false else some false else some false else some false else some false).bind fun w14 =>
  some w14
end
end Go.Sh
