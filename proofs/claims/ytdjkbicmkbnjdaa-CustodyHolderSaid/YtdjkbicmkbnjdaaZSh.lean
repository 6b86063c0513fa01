import Derived.Test.YtdjkbicmkbnjdaaZLb
set_option linter.unusedVariables false
set_option linter.unusedSimpArgs false
set_option maxRecDepth 100000
namespace Go.Sh
open Go.L
noncomputable section
structure GTape where
  L : List Int
  At : Int
  deriving DecidableEq, Inhabited
def GTape.lv (x : GTape) : LV := .agg [(lvl 1 LV.I) x.L, .I x.At]
theorem GTape.ok : OkF 2 GTape.lv := fun _ => ⟨rfl, rfl, rfl⟩
structure GStamp where
  Time : Int
  Source : Int
  Seq : Int
  deriving DecidableEq, Inhabited
def GStamp.lv (x : GStamp) : LV := .agg [.I x.Time, .I x.Source, .I x.Seq]
theorem GStamp.ok : OkF 3 GStamp.lv := fun _ => ⟨rfl, rfl, rfl⟩
structure GBagEvent where
  Stamp : GStamp
  Kind : Int
  Bag : Int
  Seal : Int
  From : Int
  To : Int
  Candidates : List Int
  deriving DecidableEq, Inhabited
def GBagEvent.lv (x : GBagEvent) : LV := .agg [.I x.Stamp.Time, .I x.Stamp.Source, .I x.Stamp.Seq, .I x.Kind, .I x.Bag, .I x.Seal, .I x.From, .I x.To, (lvl 1 LV.I) x.Candidates]
theorem GBagEvent.ok : OkF 9 GBagEvent.lv := fun _ => ⟨rfl, rfl, rfl⟩
structure GBag where
  Bag : Int
  Holder : Int
  Open : Bool
  Seals : List Int
  Packed : List Int
  Found : List Int
  deriving DecidableEq, Inhabited
def GBag.lv (x : GBag) : LV := .agg [.I x.Bag, .I x.Holder, LV.bool x.Open, (lvl 1 LV.I) x.Seals, (lvl 1 LV.I) x.Packed, (lvl 1 LV.I) x.Found]
theorem GBag.ok : OkF 6 GBag.lv := fun _ => ⟨rfl, rfl, rfl⟩
structure GIdentity where
  Source : Int
  Seq : Int
  deriving DecidableEq, Inhabited
def GIdentity.lv (x : GIdentity) : LV := .agg [.I x.Source, .I x.Seq]
theorem GIdentity.ok : OkF 2 GIdentity.lv := fun _ => ⟨rfl, rfl, rfl⟩
structure GRefusal where
  Event : GIdentity
  Code : Int
  deriving DecidableEq, Inhabited
def GRefusal.lv (x : GRefusal) : LV := .agg [.I x.Event.Source, .I x.Event.Seq, .I x.Code]
theorem GRefusal.ok : OkF 3 GRefusal.lv := fun _ => ⟨rfl, rfl, rfl⟩
structure custody_condition where
  code : Int
  holds : FnV Bool
  deriving Inhabited
def custody_condition.lv (x : custody_condition) : LV := .agg [.I x.code, .fn x.holds.f x.holds.c]
theorem custody_condition.ok : OkF 2 custody_condition.lv := fun x => ⟨by simp [custody_condition.lv, LV.pure, LV.pureL, x.holds.hc], rfl, rfl⟩
structure stamp_group where
  first : Int
  disputed : Bool
  deriving DecidableEq, Inhabited
def stamp_group.lv (x : stamp_group) : LV := .agg [.I x.first, LV.bool x.disputed]
theorem stamp_group.ok : OkF 2 stamp_group.lv := fun _ => ⟨rfl, rfl, rfl⟩
def make_New (p0 : List Int) : Option GTape :=
  if (decide ((p0.length : Int) > 600)) = true then
    (slc p0 0 600).bind fun v2 =>
    some (GTape.mk v2 0)
  else
  some (GTape.mk p0 0)
def GTape_Raw (p0 : GTape) : Option (Int × GTape) :=
  if (decide (p0.At ≥ (p0.L.length : Int))) = true then
    some (0, p0)
  else
  (idx p0.L (i64 ((i64 (p0.At + 1)) - 1))).bind fun x2 =>
  some (x2, (GTape.mk p0.L (i64 (p0.At + 1))))
def make_Cut (p0 : Int) (p1 : Int) : Option Int :=
  if (decide (p1 < 1)) = true then
    some 0
  else
  (rmd p0 p1).bind fun v2 =>
  if (decide (v2 < 0)) = true then
    some (i64 (v2 + p1))
  else
  some v2
def GTape_Next (p0 : GTape) (p1 : Int) : Option (Int × GTape) :=
  (GTape_Raw p0).bind fun r1 =>
  (make_Cut r1.1 p1).bind fun r2 =>
  some (r2, r1.2)
def GTape_Range (p0 : GTape) (p1 : Int) (p2 : Int) : Option (Int × GTape) :=
  (GTape_Next p0 (i64 ((i64 (p2 - p1)) + 1))).bind fun r1 =>
  some ((i64 (p1 + r1.1)), r1.2)
def GTape_Pick (p0 : GTape) (p1 : List Int) : Option (Int × GTape) :=
  (GTape_Next p0 (p1.length : Int)).bind fun r1 =>
  (idx p1 r1.1).bind fun x2 =>
  some (x2, r1.2)
def GTape_Sorted_L1_B (p1 : Int) (rec1 : Int → (List Int) → Int → (List Int) → Option (List Int × GTape)) (n1 : Int) (l2 : List Int) (n3 : Int) (l4 : List Int) : Option (List Int × GTape) :=
  if (decide (n1 < p1)) = true then
    (GTape_Next (GTape.mk l2 n3) 2).bind fun r6 =>
    if (r6.1 == 1) = true then
      (app l4 [n1]).bind fun v8 =>
      rec1 (i64 (n1 + 1)) r6.2.L r6.2.At v8
    else
    rec1 (i64 (n1 + 1)) r6.2.L r6.2.At l4
  else
  some (l4, (GTape.mk l2 n3))
def GTape_Sorted_L1 (p1 : Int) : Nat → Int → (List Int) → Int → (List Int) → Option (List Int × GTape)
  | 0 => fun _ _ _ _ => .none
  | n + 1 => GTape_Sorted_L1_B p1 (GTape_Sorted_L1 p1 n)
def GTape_Sorted (F : Nat) (p0 : GTape) (p1 : Int) : Option (List Int × GTape) :=
  GTape_Sorted_L1 p1 F 0 p0.L p0.At ([] : List Int)
def GTape_One (p0 : GTape) (p1 : Int) : Option (Bool × GTape) :=
  (GTape_Next p0 p1).bind fun r1 =>
  some ((r1.1 == (i64 (p1 - 1))), r1.2)
def GTape_Wild (p0 : GTape) : Option (Int × GTape) :=
  (GTape_Pick p0 [(-1), 0, 1, 2, 31, 32, 99, 100, 200, 201, 9999, 10000, 1000000, 1000001, 1152921504606846976, 1152921504606846977, (-1152921504606846976), 9223372036854775807, (-9223372036854775808)]).bind fun r1 =>
  some (r1.1, r1.2)
def GTape_Stamp (p0 : GTape) (p1 : Int) : Option (GStamp × GTape) :=
  (GTape_Range p0 0 24).bind fun r1 =>
  (GTape_Range r1.2 0 3).bind fun r2 =>
  (GTape_Range r2.2 0 9).bind fun r3 =>
  (if (decide (p1 > 0)) = true then (GTape_One r3.2 p1).bind fun r9 => some (r9.1, r9.2.L, r9.2.At) else some (false, r3.2.L, r3.2.At)).bind fun w7 =>
  if w7.1 = true then
    (GTape_Next (GTape.mk w7.2.1 w7.2.2) 3).bind fun r11 =>
    if (r11.1 == 0) = true then
      (GTape_Wild r11.2).bind fun r13 =>
      some ((GStamp.mk r13.1 r2.1 r3.1), r13.2)
    else
    if (r11.1 == 1) = true then
      (GTape_Wild r11.2).bind fun r15 =>
      some ((GStamp.mk r1.1 r15.1 r3.1), r15.2)
    else
    (GTape_Wild r11.2).bind fun r16 =>
    some ((GStamp.mk r1.1 r2.1 r16.1), r16.2)
  else
  some ((GStamp.mk r1.1 r2.1 r3.1), (GTape.mk w7.2.1 w7.2.2))
def GTape_BagEvents_J4 (rec1 : Int → (List Int) → Int → (List Int) → (List Int) → (List GBagEvent) → Option (List GBagEvent × GTape)) (n2 : Int) (l7 : List GBagEvent) (l21 : List Int) (l22 : List Int) (n25 : Int) (n26 : Int) (n27 : Int) (n28 : Int) (n29 : Int) (n30 : Int) (n31 : Int) (n32 : Int) (l33 : List Int) (l34 : List Int) (n35 : Int) : Option (List GBagEvent × GTape) :=
  (app l7 [(GBagEvent.mk (GStamp.mk n25 n26 n27) n28 n29 n30 n31 n32 l33)]).bind fun v36 =>
  (GTape_One (GTape.mk l34 n35) 8).bind fun r37 =>
  if r37.1 = true then
    (GTape_Next r37.2 (v36.length : Int)).bind fun r39 =>
    (idx v36 r39.1).bind fun x40 =>
    (app v36 [x40]).bind fun v41 =>
    rec1 (i64 (n2 - 1)) r39.2.L r39.2.At l21 l22 v41
  else
  rec1 (i64 (n2 - 1)) r37.2.L r37.2.At l21 l22 v36
def GTape_BagEvents_J3 (rec1 : Int → (List Int) → Int → (List Int) → (List Int) → (List GBagEvent) → Option (List GBagEvent × GTape)) (p2 : Int) (n2 : Int) (l7 : List GBagEvent) (r9 : Int × GTape) (l15 : List Int) (n16 : Int) (n17 : Int) (n18 : Int) (n19 : Int) (n20 : Int) (l21 : List Int) (l22 : List Int) (l23 : List Int) (n24 : Int) : Option (List GBagEvent × GTape) :=
  (if (decide (p2 > 0)) = true then (GTape_One (GTape.mk l15 n16) p2).bind fun r47 => some (r47.1, r47.2.L, r47.2.At) else some (false, l15, n16)).bind fun w45 =>
  if w45.1 = true then
    (GTape_Next (GTape.mk w45.2.1 w45.2.2) 7).bind fun r49 =>
    if (r49.1 == 0) = true then
      (GTape_Range r49.2 (-1) 6).bind fun r51 =>
      GTape_BagEvents_J4 rec1 n2 l7 l21 l22 (l7.length : Int) n24 (l7.length : Int) r51.1 r9.1 n18 n19 n20 l23 r51.2.L r51.2.At
    else
    if (r49.1 == 1) = true then
      (GTape_Pick r49.2 [(-1), 0, 3, 9999, 10000]).bind fun r53 =>
      GTape_BagEvents_J4 rec1 n2 l7 l21 l22 (l7.length : Int) n24 (l7.length : Int) n17 r53.1 n18 n19 n20 l23 r53.2.L r53.2.At
    else
    if (r49.1 == 2) = true then
      (GTape_Pick r49.2 [(-1), 0, 10, 1000000, 1000001]).bind fun r55 =>
      GTape_BagEvents_J4 rec1 n2 l7 l21 l22 (l7.length : Int) n24 (l7.length : Int) n17 r9.1 r55.1 n19 n20 l23 r55.2.L r55.2.At
    else
    if (r49.1 == 3) = true then
      (GTape_Pick r49.2 [(-1), 0, 1, 99, 100]).bind fun r57 =>
      GTape_BagEvents_J4 rec1 n2 l7 l21 l22 (l7.length : Int) n24 (l7.length : Int) n17 r9.1 n18 r57.1 n20 l23 r57.2.L r57.2.At
    else
    if (r49.1 == 4) = true then
      (GTape_Pick r49.2 [(-1), 0, 1, 99, 100]).bind fun r59 =>
      GTape_BagEvents_J4 rec1 n2 l7 l21 l22 (l7.length : Int) n24 (l7.length : Int) n17 r9.1 n18 n19 r59.1 l23 r59.2.L r59.2.At
    else
    if (r49.1 == 5) = true then
      (GTape_Pick r49.2 [0, 9999, 10000, (-1)]).bind fun r61 =>
      (app l23 [r61.1]).bind fun v62 =>
      GTape_BagEvents_J4 rec1 n2 l7 l21 l22 (l7.length : Int) n24 (l7.length : Int) n17 r9.1 n18 n19 n20 v62 r61.2.L r61.2.At
    else
    (GTape_Stamp r49.2 4).bind fun r63 =>
    GTape_BagEvents_J4 rec1 n2 l7 l21 l22 r63.1.Time r63.1.Source r63.1.Seq n17 r9.1 n18 n19 n20 l23 r63.2.L r63.2.At
  else
  GTape_BagEvents_J4 rec1 n2 l7 l21 l22 (l7.length : Int) n24 (l7.length : Int) n17 r9.1 n18 n19 n20 l23 w45.2.1 w45.2.2
def GTape_BagEvents_J2 (rec1 : Int → (List Int) → Int → (List Int) → (List Int) → (List GBagEvent) → Option (List GBagEvent × GTape)) (p2 : Int) (n2 : Int) (l7 : List GBagEvent) (r9 : Int × GTape) (r10 : Int × GTape) (l15 : List Int) (n16 : Int) (n17 : Int) (n18 : Int) (n19 : Int) (n20 : Int) (l21 : List Int) (l22 : List Int) (l23 : List Int) : Option (List GBagEvent × GTape) :=
  if (r10.1 != 0) = true then
    GTape_BagEvents_J3 rec1 p2 n2 l7 r9 l15 n16 n17 n18 n19 n20 l21 l22 l23 (max n19 0)
  else
  GTape_BagEvents_J3 rec1 p2 n2 l7 r9 l15 n16 n17 n18 n19 n20 l21 l22 l23 r10.1
def GTape_BagEvents_L5_B (rec1 : Int → (List Int) → Int → (List Int) → (List Int) → (List GBagEvent) → Option (List GBagEvent × GTape)) (p2 : Int) (n2 : Int) (l5 : List Int) (l6 : List Int) (l7 : List GBagEvent) (r9 : Int × GTape) (r10 : Int × GTape) (r67 : Int × GTape) (r68 : Int × GTape) (rec5 : Int → (List Int) → Int → (List Int) → Option (List GBagEvent × GTape)) (n69 : Int) (l70 : List Int) (n71 : Int) (l72 : List Int) : Option (List GBagEvent × GTape) :=
  if (decide (n69 < 9)) = true then
    ((make_Cut n69 3).bind fun r78 => if (r78 == r9.1) = true then (GTape_Next (GTape.mk l70 n71) 3).bind fun r80 => some ((decide (r80.1 > 0)), r80.2.L, r80.2.At) else some (false, l70, n71)).bind fun w77 =>
    if w77.1 = true then
      (app l72 [n69]).bind fun v82 =>
      rec5 (i64 (n69 + 1)) w77.2.1 w77.2.2 v82
    else
    rec5 (i64 (n69 + 1)) w77.2.1 w77.2.2 l72
  else
  (idx l5 r9.1).bind fun x83 =>
  (idx l6 r9.1).bind fun x84 =>
  GTape_BagEvents_J2 rec1 p2 n2 l7 r9 r10 l70 n71 1 (i64 ((i64 (10 * r9.1)) + r68.1)) r67.1 0 (l5.set r9.1.toNat r67.1) (l6.set r9.1.toNat (i64 ((i64 (10 * r9.1)) + r68.1))) l72
def GTape_BagEvents_L5 (rec1 : Int → (List Int) → Int → (List Int) → (List Int) → (List GBagEvent) → Option (List GBagEvent × GTape)) (p2 : Int) (n2 : Int) (l5 : List Int) (l6 : List Int) (l7 : List GBagEvent) (r9 : Int × GTape) (r10 : Int × GTape) (r67 : Int × GTape) (r68 : Int × GTape) : Nat → Int → (List Int) → Int → (List Int) → Option (List GBagEvent × GTape)
  | 0 => fun _ _ _ _ => .none
  | n + 1 => GTape_BagEvents_L5_B rec1 p2 n2 l5 l6 l7 r9 r10 r67 r68 (GTape_BagEvents_L5 rec1 p2 n2 l5 l6 l7 r9 r10 r67 r68 n)
def GTape_BagEvents_L1_B (F : Nat) (p2 : Int) (rec1 : Int → (List Int) → Int → (List Int) → (List Int) → (List GBagEvent) → Option (List GBagEvent × GTape)) (n2 : Int) (l3 : List Int) (n4 : Int) (l5 : List Int) (l6 : List Int) (l7 : List GBagEvent) : Option (List GBagEvent × GTape) :=
  if (decide (n2 > 0)) = true then
    (GTape_Next (GTape.mk l3 n4) 3).bind fun r9 =>
    (GTape_Next r9.2 2).bind fun r10 =>
    (GTape_Pick r10.2 [2, 2, 3, 4]).bind fun r11 =>
    (idx l6 r9.1).bind fun x12 =>
    (idx l5 r9.1).bind fun x13 =>
    (GTape_Pick r11.2 [0, 0, 1, 2]).bind fun r14 =>
    (idx l5 r9.1).bind fun x65 =>
    if (decide (x65 < 0)) = true then
      (GTape_Range r14.2 1 3).bind fun r67 =>
      (GTape_Next r67.2 4).bind fun r68 =>
      GTape_BagEvents_L5 rec1 p2 n2 l5 l6 l7 r9 r10 r67 r68 F 0 r68.2.L r68.2.At ([] : List Int)
    else
    if (r11.1 == 2) = true then
      (idx l5 r9.1).bind fun x86 =>
      GTape_BagEvents_J2 rec1 p2 n2 l7 r9 r10 r14.2.L r14.2.At r11.1 x12 x13 r14.1 (l5.set r9.1.toNat r14.1) l6 ([] : List Int)
    else
    if (r11.1 == 4) = true then
      (GTape_Next r14.2 40).bind fun r88 =>
      (idx l6 r9.1).bind fun x89 =>
      GTape_BagEvents_J2 rec1 p2 n2 l7 r9 r10 r88.2.L r88.2.At r11.1 (i64 (100 + r88.1)) x13 r14.1 l5 (l6.set r9.1.toNat (i64 (100 + r88.1))) ([] : List Int)
    else
    if (r11.1 == 3) = true then
      (GTape_Sorted F r14.2 9).bind fun r91 =>
      GTape_BagEvents_J2 rec1 p2 n2 l7 r9 r10 r91.2.L r91.2.At r11.1 x12 x13 r14.1 l5 l6 r91.1
    else
    GTape_BagEvents_J2 rec1 p2 n2 l7 r9 r10 r14.2.L r14.2.At r11.1 x12 x13 r14.1 l5 l6 ([] : List Int)
  else
  some (l7, (GTape.mk l3 n4))
def GTape_BagEvents_L1 (F : Nat) (p2 : Int) : Nat → Int → (List Int) → Int → (List Int) → (List Int) → (List GBagEvent) → Option (List GBagEvent × GTape)
  | 0 => fun _ _ _ _ _ _ => .none
  | n + 1 => GTape_BagEvents_L1_B F p2 (GTape_BagEvents_L1 F p2 n)
def GTape_BagEvents (F : Nat) (p0 : GTape) (p1 : Int) (p2 : Int) : Option (List GBagEvent × GTape) :=
  (GTape_Range p0 0 p1).bind fun r1 =>
  GTape_BagEvents_L1 F p2 F r1.1 r1.2.L r1.2.At [(-1), (-1), (-1)] [0, 0, 0] ([] : List GBagEvent)
def copies_Split_BagEvent_L1_B (p0 : List GBagEvent) (p1 : (GBagEvent → Option GStamp)) (p2 : (GBagEvent → GBagEvent → Option Bool)) (rec1 : Int → (List GStamp) → (List Int) → (List (GStamp × Int)) → Option (List GStamp × List Int)) (n3 : Int) (l4 : List GStamp) (l5 : List Int) (m6 : List (GStamp × Int)) : Option (List GStamp × List Int) :=
  if (decide (n3 < (p0.length : Int))) = true then
    (idx p0 n3).bind fun x8 =>
    (p1 x8).bind fun r9 =>
    (idx l4 n3).bind fun x10 =>
    (idx (l4.set n3.toNat r9) n3).bind fun x11 =>
    if (!((mget m6 x11).isSome)) = true then
      (idx (l4.set n3.toNat r9) n3).bind fun x13 =>
      rec1 (i64 (n3 + 1)) (l4.set n3.toNat r9) l5 (mput m6 x13 n3)
    else
    (idx p0 ((mget m6 x11).getD 0)).bind fun x14 =>
    (p2 x14 x8).bind fun r15 =>
    if (!r15) = true then
      (idx l5 n3).bind fun x17 =>
      rec1 (i64 (n3 + 1)) (l4.set n3.toNat r9) (l5.set n3.toNat 1) m6
    else
    rec1 (i64 (n3 + 1)) (l4.set n3.toNat r9) l5 m6
  else
  some (l4, l5)
def copies_Split_BagEvent_L1 (p0 : List GBagEvent) (p1 : (GBagEvent → Option GStamp)) (p2 : (GBagEvent → GBagEvent → Option Bool)) : Nat → Int → (List GStamp) → (List Int) → (List (GStamp × Int)) → Option (List GStamp × List Int)
  | 0 => fun _ _ _ _ => .none
  | n + 1 => copies_Split_BagEvent_L1_B p0 p1 p2 (copies_Split_BagEvent_L1 p0 p1 p2 n)
def copies_Split_BagEvent (F : Nat) (p0 : List GBagEvent) (p1 : (GBagEvent → Option GStamp)) (p2 : (GBagEvent → GBagEvent → Option Bool)) : Option (List GStamp × List Int) :=
  (mkl ((GStamp.mk 0 0 0) : GStamp) (p0.length : Int)).bind fun v1 =>
  (mkl (0 : Int) (p0.length : Int)).bind fun v2 =>
  copies_Split_BagEvent_L1 p0 p1 p2 F 0 v1 v2 ([] : List (GStamp × Int))
def stamp_Valid (p0 : GStamp) : Option Bool :=
  some ((decide (p0.Time ≥ 0)) && ((decide (p0.Time ≤ 1000000)) && ((decide (p0.Source ≥ 0)) && ((decide (p0.Source ≤ 99)) && ((decide (p0.Seq ≥ 0)) && (decide (p0.Seq ≤ 9999)))))))
def cmp_isNaN_int (p0 : Int) : Option Bool :=
  some (p0 != p0)
def cmp_Compare_int (p0 : Int) (p1 : Int) : Option Int :=
  (cmp_isNaN_int p0).bind fun r1 =>
  (cmp_isNaN_int p1).bind fun r2 =>
  if r1 = true then
    if r2 = true then
      some 0
    else
    some (-1)
  else
  if r2 = true then
    some 1
  else
  if (decide (p0 < p1)) = true then
    some (-1)
  else
  if (decide (p0 > p1)) = true then
    some 1
  else
  some 0
def cmp_Or_int_L1_B (p0 : List Int) (rec1 : Int → Option Int) (n1 : Int) : Option Int :=
  if (decide (n1 < (p0.length : Int))) = true then
    (idx p0 n1).bind fun x3 =>
    if (x3 != 0) = true then
      some x3
    else
    rec1 (i64 (n1 + 1))
  else
  some 0
def cmp_Or_int_L1 (p0 : List Int) : Nat → Int → Option Int
  | 0 => fun _ => .none
  | n + 1 => cmp_Or_int_L1_B p0 (cmp_Or_int_L1 p0 n)
def cmp_Or_int (F : Nat) (p0 : List Int) : Option Int :=
  cmp_Or_int_L1 p0 F 0
def stamp_compareIdentity (F : Nat) (p0 : GStamp) (p1 : GStamp) : Option Int :=
  (cmp_Compare_int p0.Source p1.Source).bind fun r1 =>
  (cmp_Compare_int p0.Seq p1.Seq).bind fun r2 =>
  (cmp_Or_int F [r1, r2]).bind fun r3 =>
  some r3
def stamp_groups_1 (F : Nat) (p0 : Int) (p1 : Int) (c0 : List GStamp) : Option Int :=
  (idx c0 p0).bind fun x1 =>
  (idx c0 p1).bind fun x2 =>
  (stamp_compareIdentity F x1 x2).bind fun r3 =>
  (cmp_Compare_int p0 p1).bind fun r4 =>
  (cmp_Or_int F [r3, r4]).bind fun r5 =>
  some r5
def stamp_groups_L2_B (F : Nat) (p0 : List GStamp) (p1 : List Int) (l8 : List Int) (rec2 : Int → (List stamp_group) → Option (List stamp_group)) (n9 : Int) (l10 : List stamp_group) : Option (List stamp_group) :=
  if (decide (n9 < (l8.length : Int))) = true then
    (idx l8 n9).bind fun x12 =>
    (if (decide ((i64 ((l10.length : Int) - 1)) < 0)) = true then some true else (idx l10 (i64 ((l10.length : Int) - 1))).bind fun x16 => (idx p0 x16.first).bind fun x17 => (idx p0 x12).bind fun x18 => (stamp_compareIdentity F x17 x18).bind fun r19 => some (r19 != 0)).bind fun w14 =>
    if w14 = true then
      (app l10 [(stamp_group.mk x12 false)]).bind fun v21 =>
      rec2 (i64 (n9 + 1)) v21
    else
    (idx l10 (i64 ((l10.length : Int) - 1))).bind fun x22 =>
    ((idx p0 x22.first).bind fun x25 => (idx p0 x12).bind fun x26 => if (!(decide (x25 = x26))) = true then some true else (idx p1 x22.first).bind fun x28 => (idx p1 x12).bind fun x29 => some (x28 != x29)).bind fun w24 =>
    if w24 = true then
      (idx l10 (i64 ((l10.length : Int) - 1))).bind fun x31 =>
      rec2 (i64 (n9 + 1)) (l10.set ((i64 ((l10.length : Int) - 1)).toNat) (stamp_group.mk x31.first true))
    else
    rec2 (i64 (n9 + 1)) l10
  else
  some l10
def stamp_groups_L2 (F : Nat) (p0 : List GStamp) (p1 : List Int) (l8 : List Int) : Nat → Int → (List stamp_group) → Option (List stamp_group)
  | 0 => fun _ _ => .none
  | n + 1 => stamp_groups_L2_B F p0 p1 l8 (stamp_groups_L2 F p0 p1 l8 n)
def stamp_groups_L1_B (F : Nat) (p0 : List GStamp) (p1 : List Int) (rec1 : Int → (List Int) → Option (List stamp_group)) (n1 : Int) (l2 : List Int) : Option (List stamp_group) :=
  if (decide (n1 < (p0.length : Int))) = true then
    (idx p0 n1).bind fun x4 =>
    (stamp_Valid x4).bind fun r5 =>
    if r5 = true then
      (app l2 [n1]).bind fun v7 =>
      rec1 (i64 (n1 + 1)) v7
    else
    rec1 (i64 (n1 + 1)) l2
  else
  (sortF (fun a0 a1 => stamp_groups_1 F a0 a1 p0) l2).bind fun l8 =>
  stamp_groups_L2 F p0 p1 l8 F 0 ([] : List stamp_group)
def stamp_groups_L1 (F : Nat) (p0 : List GStamp) (p1 : List Int) : Nat → Int → (List Int) → Option (List stamp_group)
  | 0 => fun _ _ => .none
  | n + 1 => stamp_groups_L1_B F p0 p1 (stamp_groups_L1 F p0 p1 n)
def stamp_groups (F : Nat) (p0 : List GStamp) (p1 : List Int) : Option (List stamp_group) :=
  stamp_groups_L1 F p0 p1 F 0 ([] : List Int)
def stamp_Compare (F : Nat) (p0 : GStamp) (p1 : GStamp) : Option Int :=
  (cmp_Compare_int p0.Time p1.Time).bind fun r1 =>
  (cmp_Compare_int p0.Source p1.Source).bind fun r2 =>
  (cmp_Compare_int p0.Seq p1.Seq).bind fun r3 =>
  (cmp_Or_int F [r1, r2, r3]).bind fun r4 =>
  some r4
def stamp_Canonical_1 (F : Nat) (p0 : Int) (p1 : Int) (c0 : List GStamp) : Option Int :=
  (idx c0 p0).bind fun x1 =>
  (idx c0 p1).bind fun x2 =>
  (stamp_Compare F x1 x2).bind fun r3 =>
  some r3
def stamp_Canonical_L1_B (F : Nat) (p0 : List GStamp) (r2 : List stamp_group) (rec1 : Int → (List Int) → Option (List Int × Int)) (n3 : Int) (l4 : List Int) : Option (List Int × Int) :=
  if (decide (n3 < (r2.length : Int))) = true then
    (idx r2 n3).bind fun x6 =>
    if (!x6.disputed) = true then
      (app l4 [x6.first]).bind fun v8 =>
      rec1 (i64 (n3 + 1)) v8
    else
    rec1 (i64 (n3 + 1)) l4
  else
  if (decide ((l4.length : Int) > 300)) = true then
    some ([], 3)
  else
  (sortF (fun a0 a1 => stamp_Canonical_1 F a0 a1 p0) l4).bind fun l10 =>
  some (l10, 0)
def stamp_Canonical_L1 (F : Nat) (p0 : List GStamp) (r2 : List stamp_group) : Nat → Int → (List Int) → Option (List Int × Int)
  | 0 => fun _ _ => .none
  | n + 1 => stamp_Canonical_L1_B F p0 r2 (stamp_Canonical_L1 F p0 r2 n)
def stamp_Canonical (F : Nat) (p0 : List GStamp) (p1 : List Int) : Option (List Int × Int) :=
  if ((p0.length : Int) != (p1.length : Int)) = true then
    some ([], 1)
  else
  (stamp_groups F p0 p1).bind fun r2 =>
  stamp_Canonical_L1 F p0 r2 F 0 ([] : List Int)
def copies_Canonical_BagEvent (F : Nat) (p0 : List GBagEvent) (p1 : (GBagEvent → Option GStamp)) (p2 : (GBagEvent → GBagEvent → Option Bool)) : Option (List Int × Int) :=
  (copies_Split_BagEvent F p0 p1 p2).bind fun r1 =>
  (stamp_Canonical F r1.1 r1.2).bind fun r2 =>
  some (r2.1, r2.2)
def custody_Canonical_1 (p0 : GBagEvent) : Option GStamp :=
  some p0.Stamp
def slices_Equal_int_int_L1_B (p0 : List Int) (p1 : List Int) (rec1 : Int → Option Bool) (n2 : Int) : Option Bool :=
  if (decide (n2 < (p0.length : Int))) = true then
    (idx p0 n2).bind fun x4 =>
    (idx p1 n2).bind fun x5 =>
    if (x4 != x5) = true then
      some false
    else
    rec1 (i64 (n2 + 1))
  else
  some true
def slices_Equal_int_int_L1 (p0 : List Int) (p1 : List Int) : Nat → Int → Option Bool
  | 0 => fun _ => .none
  | n + 1 => slices_Equal_int_int_L1_B p0 p1 (slices_Equal_int_int_L1 p0 p1 n)
def slices_Equal_int_int (F : Nat) (p0 : List Int) (p1 : List Int) : Option Bool :=
  if ((p0.length : Int) != (p1.length : Int)) = true then
    some false
  else
  slices_Equal_int_int_L1 p0 p1 F 0
def custody_Same (F : Nat) (p0 : GBagEvent) (p1 : GBagEvent) : Option Bool :=
  (if (decide (p0.Stamp = p1.Stamp)) = true then if (p0.Kind == p1.Kind) = true then if (p0.Bag == p1.Bag) = true then if (p0.Seal == p1.Seal) = true then if (p0.From == p1.From) = true then if (p0.To == p1.To) = true then (slices_Equal_int_int F p0.Candidates p1.Candidates).bind fun r9 => some r9 else some false else some false else some false else some false else some false else some false).bind fun w2 =>
  some w2
def custody_Canonical_L1_B (p0 : List GBagEvent) (r1 : List Int × Int) (rec1 : Int → (List GBagEvent) → Option (List GBagEvent × Int)) (n4 : Int) (l5 : List GBagEvent) : Option (List GBagEvent × Int) :=
  if (decide (n4 < (r1.1.length : Int))) = true then
    (idx r1.1 n4).bind fun x7 =>
    (idx p0 x7).bind fun x8 =>
    (idx l5 n4).bind fun x9 =>
    (idx p0 x7).bind fun x10 =>
    (app [] x10.Candidates).bind fun v11 =>
    (idx (l5.set n4.toNat x8) n4).bind fun x12 =>
    rec1 (i64 (n4 + 1)) ((l5.set n4.toNat x8).set n4.toNat (GBagEvent.mk x12.Stamp x12.Kind x12.Bag x12.Seal x12.From x12.To v11))
  else
  some (l5, 0)
def custody_Canonical_L1 (p0 : List GBagEvent) (r1 : List Int × Int) : Nat → Int → (List GBagEvent) → Option (List GBagEvent × Int)
  | 0 => fun _ _ => .none
  | n + 1 => custody_Canonical_L1_B p0 r1 (custody_Canonical_L1 p0 r1 n)
def custody_Canonical (F : Nat) (p0 : List GBagEvent) : Option (List GBagEvent × Int) :=
  (copies_Canonical_BagEvent F p0 (fun a0 => custody_Canonical_1 a0) (fun a0 a1 => custody_Same F a0 a1)).bind fun r1 =>
  if (r1.2 != 0) = true then
    some ([], r1.2)
  else
  (mkl ((GBagEvent.mk (GStamp.mk 0 0 0) 0 0 0 0 0 []) : GBagEvent) (r1.1.length : Int)).bind fun v3 =>
  custody_Canonical_L1 p0 r1 F 0 v3
def ref06_Ints_L1_B (p0 : List Int) (p1 : List Int) (rec1 : Int → Option Bool) (n2 : Int) : Option Bool :=
  if (decide (n2 < (p0.length : Int))) = true then
    (idx p0 n2).bind fun x4 =>
    (idx p1 n2).bind fun x5 =>
    if (x4 != x5) = true then
      some false
    else
    rec1 (i64 (n2 + 1))
  else
  some true
def ref06_Ints_L1 (p0 : List Int) (p1 : List Int) : Nat → Int → Option Bool
  | 0 => fun _ => .none
  | n + 1 => ref06_Ints_L1_B p0 p1 (ref06_Ints_L1 p0 p1 n)
def ref06_Ints (F : Nat) (p0 : List Int) (p1 : List Int) : Option Bool :=
  if ((p0.length : Int) != (p1.length : Int)) = true then
    some false
  else
  ref06_Ints_L1 p0 p1 F 0
def slices_BinarySearchFunc_Bag_Bag_int_L1_B (p0 : List GBag) (p1 : Int) (p2 : (GBag → Int → Option Int)) (rec1 : Int → Int → Option (Int × Bool)) (n1 : Int) (n2 : Int) : Option (Int × Bool) :=
  if (decide (n1 < n2)) = true then
    (idx p0 (i64 (shrI .u64 (IntKind.u64.wrap (i64 (n1 + n2))) 1))).bind fun x4 =>
    (p2 x4 p1).bind fun r5 =>
    if (decide (r5 < 0)) = true then
      rec1 (i64 ((i64 (shrI .u64 (IntKind.u64.wrap (i64 (n1 + n2))) 1)) + 1)) n2
    else
    rec1 n1 (i64 (shrI .u64 (IntKind.u64.wrap (i64 (n1 + n2))) 1))
  else
  (if (decide (n1 < (p0.length : Int))) = true then (idx p0 n1).bind fun x10 => (p2 x10 p1).bind fun r11 => some (r11 == 0) else some false).bind fun w8 =>
  some (n1, w8)
def slices_BinarySearchFunc_Bag_Bag_int_L1 (p0 : List GBag) (p1 : Int) (p2 : (GBag → Int → Option Int)) : Nat → Int → Int → Option (Int × Bool)
  | 0 => fun _ _ => .none
  | n + 1 => slices_BinarySearchFunc_Bag_Bag_int_L1_B p0 p1 p2 (slices_BinarySearchFunc_Bag_Bag_int_L1 p0 p1 p2 n)
def slices_BinarySearchFunc_Bag_Bag_int (F : Nat) (p0 : List GBag) (p1 : Int) (p2 : (GBag → Int → Option Int)) : Option (Int × Bool) :=
  slices_BinarySearchFunc_Bag_Bag_int_L1 p0 p1 p2 F 0 (p0.length : Int)
def custody_step_1 (p0 : GBag) (p1 : Int) : Option Int :=
  (cmp_Compare_int p0.Bag p1).bind fun r1 =>
  some r1
def custody_isBag (p0 : Int) : Option Bool :=
  some ((decide (p0 ≥ 0)) && (decide (p0 ≤ 9999)))
def custody_isSeal (p0 : Int) : Option Bool :=
  some ((decide (p0 ≥ 0)) && (decide (p0 ≤ 1000000)))
def custody_isHolder (p0 : Int) : Option Bool :=
  some ((decide (p0 ≥ 0)) && (decide (p0 ≤ 99)))
def custody_sorted_L1_B (p0 : List Int) (rec1 : Int → Option Bool) (n2 : Int) : Option Bool :=
  if (decide (n2 < (p0.length : Int))) = true then
    (idx p0 n2).bind fun x4 =>
    (if (decide (x4 < 0)) = true then some true else if (decide (x4 > 9999)) = true then some true else if (decide (n2 > 0)) = true then (idx p0 (i64 (n2 - 1))).bind fun x10 => some (decide (x10 ≥ x4)) else some false).bind fun w6 =>
    if w6 = true then
      some false
    else
    rec1 (i64 (n2 + 1))
  else
  some true
def custody_sorted_L1 (p0 : List Int) : Nat → Int → Option Bool
  | 0 => fun _ => .none
  | n + 1 => custody_sorted_L1_B p0 (custody_sorted_L1 p0 n)
def custody_sorted (F : Nat) (p0 : List Int) : Option Bool :=
  if (decide ((p0.length : Int) > 60)) = true then
    some false
  else
  custody_sorted_L1 p0 F 0
def custody_outOfRange (F : Nat) (p0 : GBagEvent) : Option Bool :=
  (if (decide (p0.Kind < 1)) = true then some true else if (decide (p0.Kind > 4)) = true then some true else (custody_isBag p0.Bag).bind fun r5 => if (!r5) = true then some true else (custody_isSeal p0.Seal).bind fun r7 => if (!r7) = true then some true else (custody_isHolder p0.From).bind fun r9 => some (!r9)).bind fun w2 =>
  if w2 = true then
    some true
  else
  if (p0.Kind == 2) = true then
    (custody_isHolder p0.To).bind fun r12 =>
    some (!r12)
  else
  if (p0.Kind == 1) = true then
    if (p0.Kind == 1) = true then
      (custody_sorted F p0.Candidates).bind fun r15 =>
      some (!r15)
    else
    some false
  else
  if (p0.Kind == 3) = true then
    (custody_sorted F p0.Candidates).bind fun r17 =>
    some (!r17)
  else
  some false
def custody_step_2 (F : Nat) (c0 : GBagEvent) : Option Bool :=
  (custody_outOfRange F c0).bind fun r1 =>
  some r1
def custody_step_3 (c0 : GBagEvent) : Option Bool :=
  some ((c0.Stamp.Source != 0) && (c0.Stamp.Source != c0.From))
def custody_newConditions_1 (c0 : GBagEvent) : Option Bool :=
  some (c0.From == 0)
def custody_newConditions_2 (c0 : Bool) : Option Bool :=
  some c0
def slices_Index_int_int_L1_B (p0 : List Int) (p1 : Int) (rec1 : Int → Option Int) (n1 : Int) : Option Int :=
  if (decide (n1 < (p0.length : Int))) = true then
    (idx p0 n1).bind fun x3 =>
    if (p1 == x3) = true then
      some n1
    else
    rec1 (i64 (n1 + 1))
  else
  some (-1)
def slices_Index_int_int_L1 (p0 : List Int) (p1 : Int) : Nat → Int → Option Int
  | 0 => fun _ => .none
  | n + 1 => slices_Index_int_int_L1_B p0 p1 (slices_Index_int_int_L1 p0 p1 n)
def slices_Index_int_int (F : Nat) (p0 : List Int) (p1 : Int) : Option Int :=
  slices_Index_int_int_L1 p0 p1 F 0
def slices_Contains_int_int (F : Nat) (p0 : List Int) (p1 : Int) : Option Bool :=
  (slices_Index_int_int F p0 p1).bind fun r1 =>
  some (decide (r1 ≥ 0))
def custody_inBags_1 (F : Nat) (p0 : GBag) (c0 : (GBag → Option (List Int))) (c1 : Int) : Option Bool :=
  (c0 p0).bind fun r1 =>
  (slices_Contains_int_int F r1 c1).bind fun r2 =>
  some r2
def slices_IndexFunc_Bag_Bag_L1_B (p0 : List GBag) (p1 : (GBag → Option Bool)) (rec1 : Int → Option Int) (n1 : Int) : Option Int :=
  if (decide (n1 < (p0.length : Int))) = true then
    (idx p0 n1).bind fun x3 =>
    (p1 x3).bind fun r4 =>
    if r4 = true then
      some n1
    else
    rec1 (i64 (n1 + 1))
  else
  some (-1)
def slices_IndexFunc_Bag_Bag_L1 (p0 : List GBag) (p1 : (GBag → Option Bool)) : Nat → Int → Option Int
  | 0 => fun _ => .none
  | n + 1 => slices_IndexFunc_Bag_Bag_L1_B p0 p1 (slices_IndexFunc_Bag_Bag_L1 p0 p1 n)
def slices_IndexFunc_Bag_Bag (F : Nat) (p0 : List GBag) (p1 : (GBag → Option Bool)) : Option Int :=
  slices_IndexFunc_Bag_Bag_L1 p0 p1 F 0
def slices_ContainsFunc_Bag_Bag (F : Nat) (p0 : List GBag) (p1 : (GBag → Option Bool)) : Option Bool :=
  (slices_IndexFunc_Bag_Bag F p0 p1).bind fun r1 =>
  some (decide (r1 ≥ 0))
def custody_inBags (F : Nat) (p0 : List GBag) (p1 : Int) (p2 : (GBag → Option (List Int))) : Option Bool :=
  (slices_ContainsFunc_Bag_Bag F p0 (fun a0 => custody_inBags_1 F a0 p2 p1)).bind fun r1 =>
  some r1
def custody_sealsOf (p0 : GBag) : Option (List Int) :=
  some p0.Seals
def custody_packedOf (p0 : GBag) : Option (List Int) :=
  some p0.Packed
def custody_newConditions_3_1 (F : Nat) (p0 : Int) (c0 : List GBag) : Option Bool :=
  (custody_inBags F c0 p0 (fun a0 => custody_packedOf a0)).bind fun r1 =>
  some r1
def slices_IndexFunc_int_int_L1_B (p0 : List Int) (p1 : (Int → Option Bool)) (rec1 : Int → Option Int) (n1 : Int) : Option Int :=
  if (decide (n1 < (p0.length : Int))) = true then
    (idx p0 n1).bind fun x3 =>
    (p1 x3).bind fun r4 =>
    if r4 = true then
      some n1
    else
    rec1 (i64 (n1 + 1))
  else
  some (-1)
def slices_IndexFunc_int_int_L1 (p0 : List Int) (p1 : (Int → Option Bool)) : Nat → Int → Option Int
  | 0 => fun _ => .none
  | n + 1 => slices_IndexFunc_int_int_L1_B p0 p1 (slices_IndexFunc_int_int_L1 p0 p1 n)
def slices_IndexFunc_int_int (F : Nat) (p0 : List Int) (p1 : (Int → Option Bool)) : Option Int :=
  slices_IndexFunc_int_int_L1 p0 p1 F 0
def slices_ContainsFunc_int_int (F : Nat) (p0 : List Int) (p1 : (Int → Option Bool)) : Option Bool :=
  (slices_IndexFunc_int_int F p0 p1).bind fun r1 =>
  some (decide (r1 ≥ 0))
def custody_newConditions_3 (F : Nat) (c0 : List GBag) (c1 : GBagEvent) : Option Bool :=
  ((custody_inBags F c0 c1.Seal (fun a0 => custody_sealsOf a0)).bind fun r3 => if r3 = true then some true else (slices_ContainsFunc_int_int F c1.Candidates (fun a0 => custody_newConditions_3_1 F a0 c0)).bind fun r5 => some r5).bind fun w2 =>
  some w2
def custody_newConditions_4 (c0 : List GBag) : Option Bool :=
  some (decide ((c0.length : Int) ≥ 20))
def custody_newConditions (F : Nat) (p0 : List GBag) (p1 : GBagEvent) (p2 : Bool) : Option (List custody_condition) :=
  some ([(custody_condition.mk 8 (FnV.mk 74 [.sptr [.I p1.Stamp.Time, .I p1.Stamp.Source, .I p1.Stamp.Seq, .I p1.Kind, .I p1.Bag, .I p1.Seal, .I p1.From, .I p1.To, .L p1.Candidates]] (custody_newConditions_1 p1) rfl)), (custody_condition.mk 5 (FnV.mk 75 [.sptr [.bool p2]] (custody_newConditions_2 p2) rfl)), (custody_condition.mk 9 (FnV.mk 76 [.sptr [.lst 6 (List.map GBag.lv p0)], .sptr [.I p1.Stamp.Time, .I p1.Stamp.Source, .I p1.Stamp.Seq, .I p1.Kind, .I p1.Bag, .I p1.Seal, .I p1.From, .I p1.To, .L p1.Candidates]] (custody_newConditions_3 F p0 p1) rfl)), (custody_condition.mk 3 (FnV.mk 79 [.sptr [.lst 6 (List.map GBag.lv p0)]] (custody_newConditions_4 p0) rfl))])
def custody_oldConditions_1 (c0 : Bool) : Option Bool :=
  some (!c0)
def custody_oldConditions_2 (c0 : List GBag) (c1 : Int) (c2 : GBagEvent) : Option Bool :=
  ((idx c0 c1).bind fun x3 => if x3.Open = true then some true else (idx c0 c1).bind fun x5 => if (x5.Holder != c2.From) = true then some true else if (c2.Kind == 2) = true then if (c2.To == c2.From) = true then some true else if (c2.Kind == 3) = true then some (c2.From != 0) else some false else if (c2.Kind == 3) = true then some (c2.From != 0) else some false).bind fun w2 =>
  some w2
def custody_oldConditions_3 (F : Nat) (c0 : GBagEvent) (c1 : List GBag) (c2 : Int) : Option Bool :=
  if (c0.Kind == 4) = true then
    (custody_inBags F c1 c0.Seal (fun a0 => custody_sealsOf a0)).bind fun r2 =>
    some r2
  else
  (idx c1 c2).bind fun x3 =>
  (idx x3.Seals (i64 ((x3.Seals.length : Int) - 1))).bind fun x4 =>
  some (x4 != c0.Seal)
def custody_oldConditions_4 (c0 : GBagEvent) (c1 : List GBag) (c2 : Int) : Option Bool :=
  (if (c0.Kind == 4) = true then (idx c1 c2).bind fun x4 => some (decide ((x4.Seals.length : Int) ≥ 300)) else some false).bind fun w2 =>
  some w2
def custody_oldConditions (F : Nat) (p0 : List GBag) (p1 : GBagEvent) (p2 : Int) (p3 : Bool) : Option (List custody_condition) :=
  some ([(custody_condition.mk 4 (FnV.mk 80 [.sptr [.bool p3]] (custody_oldConditions_1 p3) rfl)), (custody_condition.mk 8 (FnV.mk 81 [.sptr [.lst 6 (List.map GBag.lv p0)], .sptr [.I p2], .sptr [.I p1.Stamp.Time, .I p1.Stamp.Source, .I p1.Stamp.Seq, .I p1.Kind, .I p1.Bag, .I p1.Seal, .I p1.From, .I p1.To, .L p1.Candidates]] (custody_oldConditions_2 p0 p2 p1) rfl)), (custody_condition.mk 9 (FnV.mk 82 [.sptr [.I p1.Stamp.Time, .I p1.Stamp.Source, .I p1.Stamp.Seq, .I p1.Kind, .I p1.Bag, .I p1.Seal, .I p1.From, .I p1.To, .L p1.Candidates], .sptr [.lst 6 (List.map GBag.lv p0)], .sptr [.I p2]] (custody_oldConditions_3 F p1 p0 p2) rfl)), (custody_condition.mk 3 (FnV.mk 83 [.sptr [.I p1.Stamp.Time, .I p1.Stamp.Source, .I p1.Stamp.Seq, .I p1.Kind, .I p1.Bag, .I p1.Seal, .I p1.From, .I p1.To, .L p1.Candidates], .sptr [.lst 6 (List.map GBag.lv p0)], .sptr [.I p2]] (custody_oldConditions_4 p1 p0 p2) rfl))])
def custody_first_L1_B (p0 : List custody_condition) (rec1 : Int → Option Int) (n1 : Int) : Option Int :=
  if (decide (n1 < (p0.length : Int))) = true then
    (idx p0 n1).bind fun x3 =>
    (x3.holds.m).bind fun r4 =>
    if r4 = true then
      some x3.code
    else
    rec1 (i64 (n1 + 1))
  else
  some 0
def custody_first_L1 (p0 : List custody_condition) : Nat → Int → Option Int
  | 0 => fun _ => .none
  | n + 1 => custody_first_L1_B p0 (custody_first_L1 p0 n)
def custody_first (F : Nat) (p0 : List custody_condition) : Option Int :=
  custody_first_L1 p0 F 0
def custody_cloneBag (p0 : GBag) : Option GBag :=
  (app [] p0.Seals).bind fun v1 =>
  (app [] p0.Packed).bind fun v2 =>
  (app [] p0.Found).bind fun v3 =>
  some (GBag.mk p0.Bag p0.Holder p0.Open v1 v2 v3)
def custody_cloneBags_L1_B (p0 : List GBag) (rec1 : Int → (List GBag) → Option (List GBag)) (n2 : Int) (l3 : List GBag) : Option (List GBag) :=
  if (decide (n2 < (p0.length : Int))) = true then
    (idx p0 n2).bind fun x5 =>
    (custody_cloneBag x5).bind fun r6 =>
    (idx l3 n2).bind fun x7 =>
    rec1 (i64 (n2 + 1)) (l3.set (n2).toNat r6)
  else
  some l3
def custody_cloneBags_L1 (p0 : List GBag) : Nat → Int → (List GBag) → Option (List GBag)
  | 0 => fun _ _ => .none
  | n + 1 => custody_cloneBags_L1_B p0 (custody_cloneBags_L1 p0 n)
def custody_cloneBags (F : Nat) (p0 : List GBag) : Option (List GBag) :=
  (mkl ((GBag.mk 0 0 false [] [] []) : GBag) (p0.length : Int)).bind fun v1 =>
  custody_cloneBags_L1 p0 F 0 v1
def custody_step (F : Nat) (p0 : List GBag) (p1 : GBagEvent) : Option (List GBag × Int) :=
  (slices_BinarySearchFunc_Bag_Bag_int F p0 p1.Bag (fun a0 a1 => custody_step_1 a0 a1)).bind fun r1 =>
  if (p1.Kind == 1) = true then
    (custody_newConditions F p0 p1 r1.2).bind fun r3 =>
    (app ([(custody_condition.mk 2 (FnV.mk 53 [.sptr [.I p1.Stamp.Time, .I p1.Stamp.Source, .I p1.Stamp.Seq, .I p1.Kind, .I p1.Bag, .I p1.Seal, .I p1.From, .I p1.To, .L p1.Candidates]] (custody_step_2 F p1) rfl)), (custody_condition.mk 28 (FnV.mk 55 [.sptr [.I p1.Stamp.Time, .I p1.Stamp.Source, .I p1.Stamp.Seq, .I p1.Kind, .I p1.Bag, .I p1.Seal, .I p1.From, .I p1.To, .L p1.Candidates]] (custody_step_3 p1) rfl))]) r3).bind fun v4 =>
    (custody_first F v4).bind fun r5 =>
    if (r5 != 0) = true then
      some ([], r5)
    else
    (custody_cloneBags F p0).bind fun r7 =>
    if (p1.Kind == 1) = true then
      (app [] p1.Candidates).bind fun v9 =>
      (insF r7 r1.1 (GBag.mk p1.Bag p1.From false [p1.Seal] v9 [])).bind fun v10 =>
      some (v10, 0)
    else
    if (p1.Kind == 2) = true then
      (idx r7 r1.1).bind fun x12 =>
      some ((r7.set (r1.1).toNat (GBag.mk x12.Bag p1.To x12.Open x12.Seals x12.Packed x12.Found)), 0)
    else
    if (p1.Kind == 3) = true then
      (idx r7 r1.1).bind fun x14 =>
      (app [] p1.Candidates).bind fun v15 =>
      (idx (r7.set (r1.1).toNat (GBag.mk x14.Bag x14.Holder true x14.Seals x14.Packed x14.Found)) r1.1).bind fun x16 =>
      some (((r7.set (r1.1).toNat (GBag.mk x14.Bag x14.Holder true x14.Seals x14.Packed x14.Found)).set (r1.1).toNat (GBag.mk x16.Bag x16.Holder x16.Open x16.Seals x16.Packed v15)), 0)
    else
    if (p1.Kind == 4) = true then
      (idx r7 r1.1).bind fun x18 =>
      (app x18.Seals [p1.Seal]).bind fun v19 =>
      some ((r7.set (r1.1).toNat (GBag.mk x18.Bag x18.Holder x18.Open v19 x18.Packed x18.Found)), 0)
    else
    some (r7, 0)
  else
  (custody_oldConditions F p0 p1 r1.1 r1.2).bind fun r20 =>
  (app ([(custody_condition.mk 2 (FnV.mk 53 [.sptr [.I p1.Stamp.Time, .I p1.Stamp.Source, .I p1.Stamp.Seq, .I p1.Kind, .I p1.Bag, .I p1.Seal, .I p1.From, .I p1.To, .L p1.Candidates]] (custody_step_2 F p1) rfl)), (custody_condition.mk 28 (FnV.mk 55 [.sptr [.I p1.Stamp.Time, .I p1.Stamp.Source, .I p1.Stamp.Seq, .I p1.Kind, .I p1.Bag, .I p1.Seal, .I p1.From, .I p1.To, .L p1.Candidates]] (custody_step_3 p1) rfl))]) r20).bind fun v21 =>
  (custody_first F v21).bind fun r22 =>
  if (r22 != 0) = true then
    some ([], r22)
  else
  (custody_cloneBags F p0).bind fun r24 =>
  if (p1.Kind == 1) = true then
    (app [] p1.Candidates).bind fun v26 =>
    (insF r24 r1.1 (GBag.mk p1.Bag p1.From false [p1.Seal] v26 [])).bind fun v27 =>
    some (v27, 0)
  else
  if (p1.Kind == 2) = true then
    (idx r24 r1.1).bind fun x29 =>
    some ((r24.set (r1.1).toNat (GBag.mk x29.Bag p1.To x29.Open x29.Seals x29.Packed x29.Found)), 0)
  else
  if (p1.Kind == 3) = true then
    (idx r24 r1.1).bind fun x31 =>
    (app [] p1.Candidates).bind fun v32 =>
    (idx (r24.set (r1.1).toNat (GBag.mk x31.Bag x31.Holder true x31.Seals x31.Packed x31.Found)) r1.1).bind fun x33 =>
    some (((r24.set (r1.1).toNat (GBag.mk x31.Bag x31.Holder true x31.Seals x31.Packed x31.Found)).set (r1.1).toNat (GBag.mk x33.Bag x33.Holder x33.Open x33.Seals x33.Packed v32)), 0)
  else
  if (p1.Kind == 4) = true then
    (idx r24 r1.1).bind fun x35 =>
    (app x35.Seals [p1.Seal]).bind fun v36 =>
    some ((r24.set (r1.1).toNat (GBag.mk x35.Bag x35.Holder x35.Open v36 x35.Packed x35.Found)), 0)
  else
  some (r24, 0)
def custody_Fold_L1_B (F : Nat) (p1 : Int) (r1 : List GBagEvent × Int) (rec1 : (List GBag) → Int → (List GRefusal) → Option (List GBag × List GRefusal × Int)) (l3 : List GBag) (n4 : Int) (l5 : List GRefusal) : Option (List GBag × List GRefusal × Int) :=
  if (decide (n4 < (r1.1.length : Int))) = true then
    (idx r1.1 n4).bind fun x7 =>
    if (decide (x7.Stamp.Time > p1)) = true then
      some (l3, l5, 0)
    else
    (custody_step F l3 x7).bind fun r9 =>
    if (r9.2 != 0) = true then
      (app l5 [(GRefusal.mk (GIdentity.mk x7.Stamp.Source x7.Stamp.Seq) r9.2)]).bind fun v11 =>
      rec1 l3 (i64 (n4 + 1)) v11
    else
    rec1 r9.1 (i64 (n4 + 1)) l5
  else
  some (l3, l5, 0)
def custody_Fold_L1 (F : Nat) (p1 : Int) (r1 : List GBagEvent × Int) : Nat → (List GBag) → Int → (List GRefusal) → Option (List GBag × List GRefusal × Int)
  | 0 => fun _ _ _ => .none
  | n + 1 => custody_Fold_L1_B F p1 r1 (custody_Fold_L1 F p1 r1 n)
def custody_Fold (F : Nat) (p0 : List GBagEvent) (p1 : Int) : Option (List GBag × List GRefusal × Int) :=
  (custody_Canonical F p0).bind fun r1 =>
  if (r1.2 != 0) = true then
    some ([], [], r1.2)
  else
  custody_Fold_L1 F p1 r1 F ([] : List GBag) 0 ([] : List GRefusal)
def custody_Account_L3_B (rec1 : Int → (List (Int × Bool)) → (List (Int × Bool)) → (List (Int × Bool)) → Option (List Int × List Int × List Int × List Int)) (n1 : Int) (x6 : GBag) (m8 : List (Int × Bool)) (m9 : List (Int × Bool)) (rec3 : Int → (List (Int × Bool)) → Option (List Int × List Int × List Int × List Int)) (n13 : Int) (m14 : List (Int × Bool)) : Option (List Int × List Int × List Int × List Int) :=
  if (decide (n13 < (x6.Found.length : Int))) = true then
    (idx x6.Found n13).bind fun x16 =>
    rec3 (i64 (n13 + 1)) (mput m14 x16 true)
  else
  rec1 (i64 (n1 + 1)) m8 m9 m14
def custody_Account_L3 (rec1 : Int → (List (Int × Bool)) → (List (Int × Bool)) → (List (Int × Bool)) → Option (List Int × List Int × List Int × List Int)) (n1 : Int) (x6 : GBag) (m8 : List (Int × Bool)) (m9 : List (Int × Bool)) : Nat → Int → (List (Int × Bool)) → Option (List Int × List Int × List Int × List Int)
  | 0 => fun _ _ => .none
  | n + 1 => custody_Account_L3_B rec1 n1 x6 m8 m9 (custody_Account_L3 rec1 n1 x6 m8 m9 n)
def custody_Account_L2_B (rec1 : Int → (List (Int × Bool)) → (List (Int × Bool)) → (List (Int × Bool)) → Option (List Int × List Int × List Int × List Int)) (F : Nat) (n1 : Int) (m4 : List (Int × Bool)) (x6 : GBag) (rec2 : Int → (List (Int × Bool)) → (List (Int × Bool)) → Option (List Int × List Int × List Int × List Int)) (n7 : Int) (m8 : List (Int × Bool)) (m9 : List (Int × Bool)) : Option (List Int × List Int × List Int × List Int) :=
  if (decide (n7 < (x6.Packed.length : Int))) = true then
    (idx x6.Packed n7).bind fun x11 =>
    if x6.Open = true then
      rec2 (i64 (n7 + 1)) (mput m8 x11 true) (mput m9 x11 true)
    else
    rec2 (i64 (n7 + 1)) (mput m8 x11 true) m9
  else
  custody_Account_L3 rec1 n1 x6 m8 m9 F 0 m4
def custody_Account_L2 (rec1 : Int → (List (Int × Bool)) → (List (Int × Bool)) → (List (Int × Bool)) → Option (List Int × List Int × List Int × List Int)) (F : Nat) (n1 : Int) (m4 : List (Int × Bool)) (x6 : GBag) : Nat → Int → (List (Int × Bool)) → (List (Int × Bool)) → Option (List Int × List Int × List Int × List Int)
  | 0 => fun _ _ _ => .none
  | n + 1 => custody_Account_L2_B rec1 F n1 m4 x6 (custody_Account_L2 rec1 F n1 m4 x6 n)
def custody_Account_L4_B (p1 : List Int) (m2 : List (Int × Bool)) (m3 : List (Int × Bool)) (m4 : List (Int × Bool)) (rec4 : Int → (List Int) → (List Int) → (List Int) → (List Int) → Option (List Int × List Int × List Int × List Int)) (n17 : Int) (l18 : List Int) (l19 : List Int) (l20 : List Int) (l21 : List Int) : Option (List Int × List Int × List Int × List Int) :=
  if (decide (n17 < (p1.length : Int))) = true then
    (idx p1 n17).bind fun x23 =>
    if ((mget m4 x23).getD false) = true then
      (app l19 [x23]).bind fun v25 =>
      rec4 (i64 (n17 + 1)) l18 v25 l20 l21
    else
    if ((mget m3 x23).getD false) = true then
      (app l20 [x23]).bind fun v27 =>
      rec4 (i64 (n17 + 1)) l18 l19 v27 l21
    else
    if ((mget m2 x23).getD false) = true then
      (app l21 [x23]).bind fun v29 =>
      rec4 (i64 (n17 + 1)) l18 l19 l20 v29
    else
    (app l18 [x23]).bind fun v30 =>
    rec4 (i64 (n17 + 1)) v30 l19 l20 l21
  else
  some (l18, l21, l19, l20)
def custody_Account_L4 (p1 : List Int) (m2 : List (Int × Bool)) (m3 : List (Int × Bool)) (m4 : List (Int × Bool)) : Nat → Int → (List Int) → (List Int) → (List Int) → (List Int) → Option (List Int × List Int × List Int × List Int)
  | 0 => fun _ _ _ _ _ => .none
  | n + 1 => custody_Account_L4_B p1 m2 m3 m4 (custody_Account_L4 p1 m2 m3 m4 n)
def custody_Account_L1_B (F : Nat) (p0 : List GBag) (p1 : List Int) (rec1 : Int → (List (Int × Bool)) → (List (Int × Bool)) → (List (Int × Bool)) → Option (List Int × List Int × List Int × List Int)) (n1 : Int) (m2 : List (Int × Bool)) (m3 : List (Int × Bool)) (m4 : List (Int × Bool)) : Option (List Int × List Int × List Int × List Int) :=
  if (decide (n1 < (p0.length : Int))) = true then
    (idx p0 n1).bind fun x6 =>
    custody_Account_L2 rec1 F n1 m4 x6 F 0 m2 m3
  else
  custody_Account_L4 p1 m2 m3 m4 F 0 ([] : List Int) ([] : List Int) ([] : List Int) ([] : List Int)
def custody_Account_L1 (F : Nat) (p0 : List GBag) (p1 : List Int) : Nat → Int → (List (Int × Bool)) → (List (Int × Bool)) → (List (Int × Bool)) → Option (List Int × List Int × List Int × List Int)
  | 0 => fun _ _ _ _ => .none
  | n + 1 => custody_Account_L1_B F p0 p1 (custody_Account_L1 F p0 p1 n)
def custody_Account (F : Nat) (p0 : List GBag) (p1 : List Int) : Option (List Int × List Int × List Int × List Int) :=
  custody_Account_L1 F p0 p1 F 0 ([] : List (Int × Bool)) ([] : List (Int × Bool)) ([] : List (Int × Bool))
def law17_awake (F : Nat) : Option Bool :=
  (custody_Fold F ([(GBagEvent.mk (GStamp.mk 3 0 2) 3 1 100 0 0 [2]), (GBagEvent.mk (GStamp.mk 1 7 0) 1 1 100 7 0 [1, 2]), (GBagEvent.mk (GStamp.mk 2 7 1) 2 1 100 7 0 [])]) 9).bind fun r1 =>
  (custody_Account F r1.1 [1, 2, 3]).bind fun r2 =>
  (if (r1.2.2 == 0) = true then if ((r1.2.1.length : Int) == 0) = true then if ((r1.1.length : Int) == 1) = true then (idx r1.1 0).bind fun x8 => if x8.Open = true then (ref06_Ints F r2.1 [3]).bind fun r10 => if r10 = true then if ((r2.2.1.length : Int) == 0) = true then (ref06_Ints F r2.2.2.1 [2]).bind fun r13 => if r13 = true then (ref06_Ints F r2.2.2.2 [1]).bind fun r15 => some r15 else some false else some false else some false else some false else some false else some false else some false).bind fun w4 =>
  some w4
def law17_CustodyHolder_J4 (rec2 : Int → Int → Option Bool) (r4 : List GBagEvent × Int) (n11 : Int) (b15 : Bool) (n24 : Int) : Option Bool :=
  (if (!b15) = true then (idx r4.1 n11).bind fun x28 => some (x28.Kind == 2) else some false).bind fun w26 =>
  if w26 = true then
    (idx r4.1 n11).bind fun x30 =>
    rec2 x30.To (i64 (n11 + 1))
  else
  rec2 n24 (i64 (n11 + 1))
def law17_CustodyHolder_L3_B (rec2 : Int → Int → Option Bool) (r3 : List GBag × List GRefusal × Int) (r4 : List GBagEvent × Int) (n10 : Int) (n11 : Int) (rec3 : Bool → Int → Option Bool) (b15 : Bool) (n16 : Int) : Option Bool :=
  if (decide (n16 < (r3.2.1.length : Int))) = true then
    (if b15 = true then some true else (idx r3.2.1 n16).bind fun x21 => (idx r4.1 n11).bind fun x22 => (idx r4.1 n11).bind fun x23 => some (decide (x21.Event = (GIdentity.mk x22.Stamp.Source x23.Stamp.Seq)))).bind fun w19 =>
    rec3 w19 (i64 (n16 + 1))
  else
  (if (!b15) = true then (idx r4.1 n11).bind fun x34 => some (x34.Kind == 1) else some false).bind fun w32 =>
  if w32 = true then
    (idx r4.1 n11).bind fun x36 =>
    law17_CustodyHolder_J4 rec2 r4 n11 b15 x36.From
  else
  law17_CustodyHolder_J4 rec2 r4 n11 b15 n10
def law17_CustodyHolder_L3 (rec2 : Int → Int → Option Bool) (r3 : List GBag × List GRefusal × Int) (r4 : List GBagEvent × Int) (n10 : Int) (n11 : Int) : Nat → Bool → Int → Option Bool
  | 0 => fun _ _ => .none
  | n + 1 => law17_CustodyHolder_L3_B rec2 r3 r4 n10 n11 (law17_CustodyHolder_L3 rec2 r3 r4 n10 n11 n)
def law17_CustodyHolder_L2_B (rec1 : Int → Option Bool) (F : Nat) (r3 : List GBag × List GRefusal × Int) (r4 : List GBagEvent × Int) (n8 : Int) (rec2 : Int → Int → Option Bool) (n10 : Int) (n11 : Int) : Option Bool :=
  if (decide (n11 < (r4.1.length : Int))) = true then
    (idx r4.1 n11).bind fun x13 =>
    (idx r3.1 n8).bind fun x14 =>
    law17_CustodyHolder_L3 rec2 r3 r4 n10 n11 F (x13.Bag != x14.Bag) 0
  else
  (idx r3.1 n8).bind fun x37 =>
  if (n10 != x37.Holder) = true then
    some false
  else
  rec1 (i64 (n8 + 1))
def law17_CustodyHolder_L2 (rec1 : Int → Option Bool) (F : Nat) (r3 : List GBag × List GRefusal × Int) (r4 : List GBagEvent × Int) (n8 : Int) : Nat → Int → Int → Option Bool
  | 0 => fun _ _ => .none
  | n + 1 => law17_CustodyHolder_L2_B rec1 F r3 r4 n8 (law17_CustodyHolder_L2 rec1 F r3 r4 n8 n)
def law17_CustodyHolder_L1_B (F : Nat) (r3 : List GBag × List GRefusal × Int) (r4 : List GBagEvent × Int) (rec1 : Int → Option Bool) (n8 : Int) : Option Bool :=
  if (decide (n8 < (r3.1.length : Int))) = true then
    law17_CustodyHolder_L2 rec1 F r3 r4 n8 F (-1) 0
  else
  (law17_awake F).bind fun r39 =>
  some r39
def law17_CustodyHolder_L1 (F : Nat) (r3 : List GBag × List GRefusal × Int) (r4 : List GBagEvent × Int) : Nat → Int → Option Bool
  | 0 => fun _ => .none
  | n + 1 => law17_CustodyHolder_L1_B F r3 r4 (law17_CustodyHolder_L1 F r3 r4 n)
def law17_CustodyHolder (F : Nat) (p0 : List Int) : Option Bool :=
  (make_New p0).bind fun r1 =>
  (GTape_BagEvents F r1 14 6).bind fun r2 =>
  (custody_Fold F r2.1 1000000).bind fun r3 =>
  (custody_Canonical F r2.1).bind fun r4 =>
  if ((r3.2.2 != 0) || (r4.2 != 0)) = true then
    some false
  else
  law17_CustodyHolder_L1 F r3 r4 F 0
end
end Go.Sh
